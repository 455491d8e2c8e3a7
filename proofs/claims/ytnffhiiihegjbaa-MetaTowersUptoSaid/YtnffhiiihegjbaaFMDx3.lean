/- Part of the walk: lemmas and printed functions that the claim uses (wip/tools/trim.py). -/
import Derived.Test.YtnffhiiihegjbaaFMDx0
import Derived.Test.YtnffhiiihegjbaaFMDx2
namespace Go.Proofs.Ytnffhiiihegjbaa.MD
open Go.RowKit Go.Proofs.YtnffhiiihegjbaaW.PrintWords Go.Proofs.YtnffhiiihegjbaaW.PrintLast Go.Proofs.YtnffhiiihegjbaaW.PrintMore
attribute [local go_sem] max2_int min2_int max_two min_two max_three min_three max_four min_four
set_option linter.unusedVariables false
set_option linter.unusedSimpArgs false
def oddR (r : Nat) : Bool := decide (r < 32) || decide (126 < r)
set_option maxHeartbeats 1000000 in
theorem term_right_1.calls (r : Nat) (w : World) : Calls Try.prog 85 #[.int .i32 (r : Int)] w fun e w' => e = .returned (.bool (oddR r)) ∧ w' = w := by
  by_cases h1 : r < 32
  · have b1 : decide ((r : Int) < 32) = true := by simp; omega
    go_enter Try.func85, Try.ntmps85
    go_wp2
    go_ret; exact ⟨by simp [oddR, h1], rfl⟩
  · have b1 : decide ((r : Int) < 32) = false := by simp; omega
    go_enter Try.func85, Try.ntmps85
    go_wp2
    go_ret
    have b2 : decide ((126 : Int) < (r : Int)) = decide (126 < r) := by rw [decide_eq_decide]; omega
    exact ⟨by simp [oddR, h1, b2], rfl⟩
set_option maxHeartbeats 2000000 in
set_option maxRecDepth 1000000 in
theorem strings_indexFunc.calls (s : ByteArray) (w : World) :
    Calls Try.prog 116 #[.string s, .func (.func 85) #[] #[], .bool true] w fun e w' => e = .returned (.int .i64 (Lib.idxFunc oddR true s)) ∧ Below w.heap.size w w' := by
  go_enter Try.func116, Try.ntmps116
  go_wp2
  go_loopg [] s.size (fun gf wx => ∃ pos : Nat, wx.heap[w.heap.size]? = some (.stringIter s pos) ∧ Below w.heap.size w wx ∧ Lib.idxFuncFrom oddR true s gf pos = Lib.idxFunc oddR true s ∧ s.size ≤ pos + gf)
  case atStart => exact ⟨0, World.iter_heap w s 0, (Below.refl _ w).alloc (Nat.le_refl _) _, rfl, by omega⟩
  case round =>
    obtain ⟨pos, hit, hbw, hleft, hfu⟩ := hrel
    by_cases hps : pos < s.size
    · obtain ⟨g', rfl⟩ : ∃ g', gk = g' + 1 := ⟨gk - 1, by omega⟩
      have hnx : ∀ ty, (Instr.next (.pointer (some ⟨w.heap.size, 0, none⟩)) true ty).run Try.prog wr = _ := fun ty => Lib.run_next_any_at wr w.heap.size s pos ty hit hps
      have hwd := Lib.width_pos s pos; obtain ⟨R, hR⟩ : ∃ R, (Utf8.decode s pos).1 = R := ⟨_, rfl⟩; obtain ⟨K, hK⟩ : ∃ K, (Utf8.decode s pos).2 = K := ⟨_, rfl⟩; simp only [Lib.idxFuncFrom, hps, if_true, hR, hK] at hleft; rw [hR, hK] at hnx; rw [hK] at hwd; have hit2 := Lib.iterAt_heap wr w.heap.size s pos (pos + K) hit; have hbw2 := Lib.below_iterAt hbw (k := w.heap.size) (Nat.le_refl _) s (pos + K); obtain ⟨W, hWd⟩ : ∃ W, wr.iterAt w.heap.size s (pos + K) = W := ⟨_, rfl⟩; rw [hWd] at hnx hit2 hbw2; have cS := term_right_1.calls R W
      cases hsp : oddR R <;> rw [hsp] at cS <;> simp only [hsp, if_true, Bool.false_eq_true, if_false] at hleft
      · go_wp2_with (go_at_call 85; refine cS.mono ?_; rintro e W' ⟨rfl, rfl⟩)
        go_roundg g'
        case measure => omega
        case rel => exact ⟨pos + K, hit2, hbw2, hleft, by omega⟩
      · go_wp2_with (go_at_call 85; refine cS.mono ?_; rintro e W' ⟨rfl, rfl⟩)
        go_ret; exact ⟨by rw [← hleft] <;> rfl, hbw2⟩
    · have hnx : ∀ ty, (Instr.next (.pointer (some ⟨w.heap.size, 0, none⟩)) true ty).run Try.prog wr = _ := fun ty => Lib.run_next_end_at wr w.heap.size s pos ty hit hps
      rw [Lib.idxFuncFrom_end oddR true s gk pos hps] at hleft
      go_wp2
      go_ret; exact ⟨by rw [← hleft] <;> rfl, hbw⟩
set_option maxHeartbeats 1000000 in
theorem strings_IndexFunc.calls (s : ByteArray) (w : World) :
    Calls Try.prog 99 #[.string s, .func (.func 85) #[] #[]] w fun e w' => e = .returned (.int .i64 (Lib.idxFunc oddR true s)) ∧ Below w.heap.size w w' := by
  have cI := strings_indexFunc.calls s w; obtain ⟨I, hI⟩ : ∃ I, Lib.idxFunc oddR true s = I := ⟨_, rfl⟩; rw [hI] at cI ⊢
  go_enter Try.func99, Try.ntmps99
  go_wp2_with (go_at_call 116; refine cI.mono ?_; rintro e w' ⟨rfl, hb⟩)
  go_ret; exact ⟨rfl, hb⟩
theorem get_bang (s : ByteArray) (i : Nat) (h : i < s.size) : s.get! i = s[i] := by
  cases s with | mk a => exact getElem!_pos a i h
theorem decode_ascii (s : ByteArray) (i : Nat) (h : i < s.size) (h2 : s[i].toNat < 128) : Utf8.decode s i = (s[i].toNat, 1) := by
  unfold Utf8.decode; simp only [Nat.add_zero, get_bang s i h]; rw [if_pos h2]
theorem decode_other (s : ByteArray) (i : Nat) (h : i < s.size) (h2 : ¬ s[i].toNat < 128) : 126 < (Utf8.decode s i).1 := by
  unfold Utf8.decode; simp only [Nat.add_zero, get_bang s i h]; rw [if_neg h2]
  repeat' split
  all_goals first | (simp only [Utf8.runeError]; omega) | (rename_i hc; simp only [Bool.and_eq_true, decide_eq_true_eq] at hc; simp only; omega)
theorem idx_from (s : ByteArray) : ∀ f pos, s.size ≤ pos + f → (0 ≤ Lib.idxFuncFrom oddR true s f pos ↔ ∃ i, pos ≤ i ∧ ∃ h : i < s.size, s[i].toNat < 32 ∨ 126 < s[i].toNat)
  | 0, pos, h => by
    constructor
    · intro h1; simp [Lib.idxFuncFrom] at h1
    · rintro ⟨i, h1, h2, _⟩; omega
  | f + 1, pos, h => by
    unfold Lib.idxFuncFrom
    by_cases hp : pos < s.size
    · rw [if_pos hp]
      by_cases hb : s[pos].toNat < 128
      · rw [decode_ascii s pos hp hb]
        by_cases ho : s[pos].toNat < 32 ∨ 126 < s[pos].toNat
        · rw [if_pos (by simpa [oddR] using ho)]; exact ⟨fun _ => ⟨pos, Nat.le_refl _, hp, ho⟩, fun _ => by omega⟩
        · rw [if_neg (by simpa [oddR] using ho)]; simp only; rw [idx_from s f (pos + 1) (by omega)]
          constructor
          · rintro ⟨i, h1, h2⟩; exact ⟨i, by omega, h2⟩
          · rintro ⟨i, h1, h2, h3⟩
            rcases Nat.eq_or_lt_of_le h1 with rfl | h4
            · exact absurd h3 ho
            · exact ⟨i, by omega, h2, h3⟩
      · have h3 := decode_other s pos hp hb; rw [if_pos (by simp [oddR, h3])]; exact ⟨fun _ => ⟨pos, Nat.le_refl _, hp, by omega⟩, fun _ => by omega⟩
    · rw [if_neg hp]
      constructor
      · intro h1; omega
      · rintro ⟨i, h1, h2, _⟩; omega
theorem idx_any (s : ByteArray) : decide (0 ≤ Lib.idxFunc oddR true s) = s.data.toList.any fun b => b < 32 || b > 126 := by
  rw [Bool.eq_iff_iff, decide_eq_true_eq]; unfold Lib.idxFunc; rw [idx_from s s.size 0 (by omega), List.any_eq_true]
  constructor
  · rintro ⟨i, _, h, h1⟩; refine ⟨s[i], ?_, ?_⟩
    · exact Array.getElem_mem_toList ..
    · simp only [Bool.or_eq_true, decide_eq_true_eq, GT.gt, UInt8.lt_iff_toNat_lt]; exact h1
  · rintro ⟨b, hb, h1⟩; obtain ⟨i, hi, rfl⟩ := List.mem_iff_getElem.1 hb; refine ⟨i, Nat.zero_le _, by simpa using hi, ?_⟩; simp only [Bool.or_eq_true, decide_eq_true_eq, GT.gt, UInt8.lt_iff_toNat_lt] at h1; exact h1
def strings_ContainsFunc.f (a0 : ByteArray) : Option (Bool) := some (a0.data.toList.any fun b => b < 32 || b > 126)
set_option maxHeartbeats 1000000 in
theorem strings_ContainsFunc.calls (a0 : ByteArray) (r : Bool) (w : World) (h : strings_ContainsFunc.f a0 = some r) :
    Calls Try.prog 84 #[.string a0, .func (.func 85) #[] #[]] w fun e w' => e = .returned (.bool r) ∧ Below w.heap.size w w' := by
  have cI := strings_IndexFunc.calls a0 w; obtain rfl := Option.some.inj h; clear h; rw [← idx_any]; obtain ⟨I, hI⟩ : ∃ I, Lib.idxFunc oddR true a0 = I := ⟨_, rfl⟩; rw [hI] at cI ⊢
  go_enter Try.func84, Try.ntmps84
  go_wp2_with (go_at_call 99; refine cI.mono ?_; rintro e w' ⟨rfl, hb⟩)
  go_ret; exact ⟨rfl, hb⟩
def stringslite_HasPrefix.f (a0 : ByteArray) (a1 : ByteArray) : Option (Bool) := if (a0.size : Int) ≥ (a1.size : Int) then (if 0 ≤ (a1.size : Int) then (if (a1.size : Int) ≤ (a0.size : Int) then (some ((a0.extract 0 ((a1.size : Int) : Int).toNat).toList == a1.toList)) else (none)) else (none)) else (some false)
set_option maxHeartbeats 8000000 in
set_option maxRecDepth 100000 in
theorem stringslite_HasPrefix.calls (a0 : ByteArray) (a1 : ByteArray) (r : Bool) (w : World) (h : stringslite_HasPrefix.f a0 a1 = some r) :
    Calls Try.prog 125 #[.string a0, .string a1] w fun e w' => e = .returned (.bool r) ∧ Drawn0 w w' := by
  have H : (if (a0.size : Int) ≥ (a1.size : Int) then (if 0 ≤ (a1.size : Int) then (if (a1.size : Int) ≤ (a0.size : Int) then (some ((a0.extract 0 ((a1.size : Int) : Int).toNat).toList == a1.toList)) else (none)) else (none)) else (some false)) = some r := h; clear h
  by_cases c3 : (a0.size : Int) ≥ (a1.size : Int)
  · rw [if_pos c3] at H; have c3b0 : decide ((a1.size : Int) ≤ (a0.size : Int)) = true := decide_eq_true c3; have c3b1 : decide (a1.size ≤ a0.size) = true := decide_eq_true (Int.ofNat_le.mp c3); clear c3
    by_cases c4 : 0 ≤ (a1.size : Int)
    · rw [if_pos c4] at H; have c4b0 := eq_true c4; have c4b1 : decide (0 ≤ (a1.size : Int)) = true := decide_eq_true c4; clear c4
      by_cases c5 : (a1.size : Int) ≤ (a0.size : Int)
      · rw [if_pos c5] at H; have c5b0 := eq_true c5; have c5b1 : decide ((a1.size : Int) ≤ (a0.size : Int)) = true := decide_eq_true c5; clear c5; obtain rfl := Option.some.inj H
        go_enter Try.func125, Try.ntmps125
        go_wp2
        go_ret; exact ⟨by rfl, by repeat (exact Drawn0.refl _)⟩
      · rw [if_neg c5] at H; exact absurd H (by simp)
    · rw [if_neg c4] at H; exact absurd H (by simp)
  · rw [if_neg c3] at H; have c3b0 : decide ((a1.size : Int) ≤ (a0.size : Int)) = false := decide_eq_false c3; have c3b1 : decide (a1.size ≤ a0.size) = false := decide_eq_false (fun h => c3 (Int.ofNat_le.mpr h)); clear c3; obtain rfl := Option.some.inj H
    go_enter Try.func125, Try.ntmps125
    go_wp2
    go_ret; exact ⟨by rfl, by repeat (exact Drawn0.refl _)⟩
def stringslite_CutPrefix.f (a0 : ByteArray) (a1 : ByteArray) : Option (ByteArray × Bool) := (stringslite_HasPrefix.f a0 a1).bind fun t117 => (if t117 = true then (if 0 ≤ (a1.size : Int) then (if (a1.size : Int) ≤ (a0.size : Int) then (some (a0.extract ((a1.size : Int) : Int).toNat a0.size, true)) else (none)) else (none)) else (some (a0, false)))
set_option maxHeartbeats 8000000 in
set_option maxRecDepth 100000 in
theorem stringslite_CutPrefix.calls (a0 : ByteArray) (a1 : ByteArray) (r1 : ByteArray) (r2 : Bool) (w : World) (h : stringslite_CutPrefix.f a0 a1 = some (r1, r2)) :
    Calls Try.prog 117 #[.string a0, .string a1] w fun e w' => e = .returned (.tuple #[.string r1, .bool r2]) ∧ Drawn0 w w' := by
  have H : ((stringslite_HasPrefix.f a0 a1).bind fun t117 => (if t117 = true then (if 0 ≤ (a1.size : Int) then (if (a1.size : Int) ≤ (a0.size : Int) then (some (a0.extract ((a1.size : Int) : Int).toNat a0.size, true)) else (none)) else (none)) else (some (a0, false)))) = some (r1, r2) := h; clear h; replace H := Option.bind_eq_some_iff.mp H; obtain ⟨t117, A30, H⟩ := H; replace H : (if t117 = true then (if 0 ≤ (a1.size : Int) then (if (a1.size : Int) ≤ (a0.size : Int) then (some (a0.extract ((a1.size : Int) : Int).toNat a0.size, true)) else (none)) else (none)) else (some (a0, false))) = some (r1, r2) := H; have A3 := Aside0.mk A30; clear A30
  by_cases c4 : t117 = true
  · subst c4
    have H1 : (if 0 ≤ (a1.size : Int) then (if (a1.size : Int) ≤ (a0.size : Int) then (some (a0.extract ((a1.size : Int) : Int).toNat a0.size, true)) else (none)) else (none)) = some (r1, r2) := by rw [if_pos rfl] at H; exact H
    clear H; have H := H1; clear H1
    by_cases c5 : 0 ≤ (a1.size : Int)
    · rw [if_pos c5] at H; have c5b0 := eq_true c5; have c5b1 : decide (0 ≤ (a1.size : Int)) = true := decide_eq_true c5; clear c5
      by_cases c6 : (a1.size : Int) ≤ (a0.size : Int)
      · rw [if_pos c6] at H; have c6b0 := eq_true c6; have c6b1 : decide ((a1.size : Int) ≤ (a0.size : Int)) = true := decide_eq_true c6; clear c6; simp only [Option.some.injEq, Prod.mk.injEq] at H; obtain ⟨rfl, rfl⟩ := H
        go_enter Try.func117, Try.ntmps117
        go_wp2_with (first | ((with_reducible refine q14 (f := 125) rfl ?_); refine goesL_ (some 8) rfl rfl Try.func125 (by kernel_rfl) rfl #[.string a0, .string a1] rfl (by (try simp only [List.map_toArray, List.map_cons, List.map_nil]); rfl) ?_; (with_reducible refine (stringslite_HasPrefix.calls a0 a1 true _ A3.out).mono ?_); rintro e w' ⟨rfl, ⟨nd, rfl⟩⟩; refine ⟨_, rfl, ?_⟩))
        go_ret2
        exact ⟨by rfl, by repeat (first | exact Drawn0.refl _ | apply Drawn0.step)⟩
      · rw [if_neg c6] at H; exact absurd H (by simp)
    · rw [if_neg c5] at H; exact absurd H (by simp)
  · replace c4 := Bool.eq_false_iff.mpr c4; subst c4
    have H1 : (some (a0, false)) = some (r1, r2) := by rw [if_neg (show ¬ (false = true) by decide)] at H; exact H
    clear H; have H := H1; clear H1; simp only [Option.some.injEq, Prod.mk.injEq] at H; obtain ⟨rfl, rfl⟩ := H
    go_enter Try.func117, Try.ntmps117
    go_wp2_with (first | ((with_reducible refine q14 (f := 125) rfl ?_); refine goesL_ (some 8) rfl rfl Try.func125 (by kernel_rfl) rfl #[.string a0, .string a1] rfl (by (try simp only [List.map_toArray, List.map_cons, List.map_nil]); rfl) ?_; (with_reducible refine (stringslite_HasPrefix.calls a0 a1 false _ A3.out).mono ?_); rintro e w' ⟨rfl, ⟨nd, rfl⟩⟩; refine ⟨_, rfl, ?_⟩))
    go_ret2
    exact ⟨by rfl, by repeat (first | exact Drawn0.refl _ | apply Drawn0.step)⟩
def strings_CutPrefix.f (a0 : ByteArray) (a1 : ByteArray) : Option (ByteArray × Bool) := (stringslite_CutPrefix.f a0 a1).bind fun bt118 => (some (bt118.1, bt118.2))
set_option maxHeartbeats 8000000 in
set_option maxRecDepth 100000 in
theorem strings_CutPrefix.calls (a0 : ByteArray) (a1 : ByteArray) (r1 : ByteArray) (r2 : Bool) (w : World) (h : strings_CutPrefix.f a0 a1 = some (r1, r2)) :
    Calls Try.prog 100 #[.string a0, .string a1] w fun e w' => e = .returned (.tuple #[.string r1, .bool r2]) ∧ Drawn0 w w' := by
  have H : ((stringslite_CutPrefix.f a0 a1).bind fun bt118 => (some (bt118.1, bt118.2))) = some (r1, r2) := h; clear h; replace H := Option.bind_eq_some_iff.mp H; obtain ⟨⟨t118, t119⟩, A30, H⟩ := H; replace H : (some (t118, t119)) = some (r1, r2) := H; have A3 := Aside0.mk A30; clear A30; simp only [Option.some.injEq, Prod.mk.injEq] at H; obtain ⟨rfl, rfl⟩ := H
  go_enter Try.func100, Try.ntmps100
  go_wp2_with (first | ((with_reducible refine q14 (f := 117) rfl ?_); refine goesL_ (some 8) rfl rfl Try.func117 (by kernel_rfl) rfl #[.string a0, .string a1] rfl (by (try simp only [List.map_toArray, List.map_cons, List.map_nil]); rfl) ?_; (with_reducible refine (stringslite_CutPrefix.calls a0 a1 t118 t119 _ A3.out).mono ?_); rintro e w' ⟨rfl, ⟨nd, rfl⟩⟩; refine ⟨_, rfl, ?_⟩))
  go_ret2
  exact ⟨by rfl, by repeat (first | exact Drawn0.refl _ | apply Drawn0.step)⟩
def term_isNumber.f (k : Nat) (a0 : ByteArray) : Option (Bool) := (strings_CutPrefix.f a0 (⟨#[45]⟩ : ByteArray)).bind fun bt120 => (if bt120.1.toList = ([] : List UInt8) then (some false) else (if (bt120.1.size : Int) > 500 then (some false) else ((term_every.f k bt120.1 2).bind fun t122 => (if t122 = true then (if 0 < (bt120.1.size : Int) then (if (bt bt120.1 0) = 48 then (if (bt120.1.size : Int) = 1 then (some (!bt120.2)) else (some false)) else (some true)) else (none)) else (some false)))))
set_option maxHeartbeats 8000000 in
set_option maxRecDepth 100000 in
theorem term_isNumber.calls (k : Nat) (a0 : ByteArray) (r : Bool) (w : World) (h : term_isNumber.f k a0 = some r) :
    Calls Try.prog 86 #[.string a0] w fun e w' => e = .returned (.bool r) ∧ Drawn0 w w' := by
  have H : ((strings_CutPrefix.f a0 (⟨#[45]⟩ : ByteArray)).bind fun bt120 => (if bt120.1.toList = ([] : List UInt8) then (some false) else (if (bt120.1.size : Int) > 500 then (some false) else ((term_every.f k bt120.1 2).bind fun t122 => (if t122 = true then (if 0 < (bt120.1.size : Int) then (if (bt bt120.1 0) = 48 then (if (bt120.1.size : Int) = 1 then (some (!bt120.2)) else (some false)) else (some true)) else (none)) else (some false)))))) = some r := h; clear h; replace H := Option.bind_eq_some_iff.mp H; obtain ⟨⟨t120, t121⟩, A20, H⟩ := H; replace H : (if t120.toList = ([] : List UInt8) then (some false) else (if (t120.size : Int) > 500 then (some false) else ((term_every.f k t120 2).bind fun t122 => (if t122 = true then (if 0 < (t120.size : Int) then (if (bt t120 0) = 48 then (if (t120.size : Int) = 1 then (some (!t121)) else (some false)) else (some true)) else (none)) else (some false))))) = some r := H; have A2 := Aside0.mk A20; clear A20
  by_cases c3 : t120.toList = ([] : List UInt8)
  · rw [if_pos c3] at H; have c3b0 : (t120.toList == ([] : List UInt8)) = true := beq_iff_eq.mpr c3; have c3b1 : (t120.toList != ([] : List UInt8)) = false := bne_eq_false_iff_eq.mpr c3; clear c3; obtain rfl := Option.some.inj H
    go_enter Try.func86, Try.ntmps86
    go_wp2_with (first | ((with_reducible refine q14 (f := 100) rfl ?_); refine goesL_ (some 7) rfl rfl Try.func100 (by kernel_rfl) rfl #[.string a0, .string (⟨#[45]⟩ : ByteArray)] rfl (by (try simp only [List.map_toArray, List.map_cons, List.map_nil]); rfl) ?_; (with_reducible refine (strings_CutPrefix.calls a0 (⟨#[45]⟩ : ByteArray) t120 t121 _ A2.out).mono ?_); rintro e w' ⟨rfl, ⟨nd, rfl⟩⟩; refine ⟨_, rfl, ?_⟩))
    go_ret; exact ⟨by rfl, by repeat (first | exact Drawn0.refl _ | apply Drawn0.step)⟩
  · rw [if_neg c3] at H; have c3b0 : (t120.toList == ([] : List UInt8)) = false := beq_eq_false_iff_ne.mpr c3; have c3b1 : (t120.toList != ([] : List UInt8)) = true := bne_iff_ne.mpr c3
    by_cases c4 : (t120.size : Int) > 500
    · rw [if_pos c4] at H; have c4b0 : decide (500 < (t120.size : Int)) = true := decide_eq_true c4; have c4b1 : decide (500 < t120.size) = true := decide_eq_true (by omega); clear c4; obtain rfl := Option.some.inj H
      go_enter Try.func86, Try.ntmps86
      go_wp2_with (first | ((with_reducible refine q14 (f := 100) rfl ?_); refine goesL_ (some 7) rfl rfl Try.func100 (by kernel_rfl) rfl #[.string a0, .string (⟨#[45]⟩ : ByteArray)] rfl (by (try simp only [List.map_toArray, List.map_cons, List.map_nil]); rfl) ?_; (with_reducible refine (strings_CutPrefix.calls a0 (⟨#[45]⟩ : ByteArray) t120 t121 _ A2.out).mono ?_); rintro e w' ⟨rfl, ⟨nd, rfl⟩⟩; refine ⟨_, rfl, ?_⟩))
      go_ret; exact ⟨by rfl, by repeat (first | exact Drawn0.refl _ | apply Drawn0.step)⟩
    · rw [if_neg c4] at H; have c4b0 : decide (500 < (t120.size : Int)) = false := decide_eq_false c4; have c4b1 : decide (500 < t120.size) = false := decide_eq_false (by omega); clear c4; replace H := Option.bind_eq_some_iff.mp H; obtain ⟨t122, A50, H⟩ := H; replace H : (if t122 = true then (if 0 < (t120.size : Int) then (if (bt t120 0) = 48 then (if (t120.size : Int) = 1 then (some (!t121)) else (some false)) else (some true)) else (none)) else (some false)) = some r := H; have A5 := Aside0.mk A50; clear A50
      by_cases c6 : t122 = true
      · subst c6
        have H1 : (if 0 < (t120.size : Int) then (if (bt t120 0) = 48 then (if (t120.size : Int) = 1 then (some (!t121)) else (some false)) else (some true)) else (none)) = some r := by rw [if_pos rfl] at H; exact H
        clear H; have H := H1; clear H1
        by_cases c7 : 0 < (t120.size : Int)
        · rw [if_pos c7] at H; have c7b0 : decide (0 < (t120.size : Int)) = true := decide_eq_true c7; have c7b1 : decide (0 < t120.size) = true := decide_eq_true (by omega); clear c7
          by_cases c9 : (bt t120 0) = 48
          · rw [if_pos c9] at H; have c9b0 : ((bt t120 0) == 48) = true := beq_iff_eq.mpr c9; have c9b1 : ((bt t120 0) != 48) = false := bne_eq_false_iff_eq.mpr c9; clear c9
            by_cases c10 : (t120.size : Int) = 1
            · rw [if_pos c10] at H; have c10b0 : ((t120.size : Int) == 1) = true := beq_iff_eq.mpr c10; have c10b1 : ((t120.size : Int) != 1) = false := bne_eq_false_iff_eq.mpr c10; clear c10; obtain rfl := Option.some.inj H
              go_enter Try.func86, Try.ntmps86
              go_wp2_with (first | ((with_reducible refine q14 (f := 100) rfl ?_); refine goesL_ (some 7) rfl rfl Try.func100 (by kernel_rfl) rfl #[.string a0, .string (⟨#[45]⟩ : ByteArray)] rfl (by (try simp only [List.map_toArray, List.map_cons, List.map_nil]); rfl) ?_; (with_reducible refine (strings_CutPrefix.calls a0 (⟨#[45]⟩ : ByteArray) t120 t121 _ A2.out).mono ?_); rintro e w' ⟨rfl, ⟨nd, rfl⟩⟩; refine ⟨_, rfl, ?_⟩) | (go_at_call 87; (with_reducible refine (term_every.calls k t120 2 true _ A5.out).mono ?_); rintro e w' ⟨rfl, ⟨nd, rfl⟩⟩; have p8 : 0 ≤ (0 : Int) := (by omega); have q8 : 0 < t120.size := (by have : (0 : Int) < (t120.size : Int) := of_decide_eq_true (by (with_reducible assumption)); omega); have hx8 : ∀ h : 0 < t120.size, ((t120[0]'h).toNat : Int) = bt t120 0 := bt_at t120 0; clear p8; have qi8 : (0 < (t120.size : Int)) = True := eq_true (of_decide_eq_true (by (with_reducible assumption))); replace q8 := eq_true q8))
              go_ret; exact ⟨by rfl, by repeat (first | exact Drawn0.refl _ | apply Drawn0.step)⟩
            · rw [if_neg c10] at H; have c10b0 : ((t120.size : Int) == 1) = false := beq_eq_false_iff_ne.mpr c10; have c10b1 : ((t120.size : Int) != 1) = true := bne_iff_ne.mpr c10; obtain rfl := Option.some.inj H
              go_enter Try.func86, Try.ntmps86
              go_wp2_with (first | ((with_reducible refine q14 (f := 100) rfl ?_); refine goesL_ (some 7) rfl rfl Try.func100 (by kernel_rfl) rfl #[.string a0, .string (⟨#[45]⟩ : ByteArray)] rfl (by (try simp only [List.map_toArray, List.map_cons, List.map_nil]); rfl) ?_; (with_reducible refine (strings_CutPrefix.calls a0 (⟨#[45]⟩ : ByteArray) t120 t121 _ A2.out).mono ?_); rintro e w' ⟨rfl, ⟨nd, rfl⟩⟩; refine ⟨_, rfl, ?_⟩) | (go_at_call 87; (with_reducible refine (term_every.calls k t120 2 true _ A5.out).mono ?_); rintro e w' ⟨rfl, ⟨nd, rfl⟩⟩; have p8 : 0 ≤ (0 : Int) := (by omega); have q8 : 0 < t120.size := (by have : (0 : Int) < (t120.size : Int) := of_decide_eq_true (by (with_reducible assumption)); omega); have hx8 : ∀ h : 0 < t120.size, ((t120[0]'h).toNat : Int) = bt t120 0 := bt_at t120 0; clear p8; have qi8 : (0 < (t120.size : Int)) = True := eq_true (of_decide_eq_true (by (with_reducible assumption))); replace q8 := eq_true q8))
              go_ret; exact ⟨by rfl, by repeat (first | exact Drawn0.refl _ | apply Drawn0.step)⟩
          · rw [if_neg c9] at H; have c9b0 : ((bt t120 0) == 48) = false := beq_eq_false_iff_ne.mpr c9; have c9b1 : ((bt t120 0) != 48) = true := bne_iff_ne.mpr c9; obtain rfl := Option.some.inj H
            go_enter Try.func86, Try.ntmps86
            go_wp2_with (first | ((with_reducible refine q14 (f := 100) rfl ?_); refine goesL_ (some 7) rfl rfl Try.func100 (by kernel_rfl) rfl #[.string a0, .string (⟨#[45]⟩ : ByteArray)] rfl (by (try simp only [List.map_toArray, List.map_cons, List.map_nil]); rfl) ?_; (with_reducible refine (strings_CutPrefix.calls a0 (⟨#[45]⟩ : ByteArray) t120 t121 _ A2.out).mono ?_); rintro e w' ⟨rfl, ⟨nd, rfl⟩⟩; refine ⟨_, rfl, ?_⟩) | (go_at_call 87; (with_reducible refine (term_every.calls k t120 2 true _ A5.out).mono ?_); rintro e w' ⟨rfl, ⟨nd, rfl⟩⟩; have p8 : 0 ≤ (0 : Int) := (by omega); have q8 : 0 < t120.size := (by have : (0 : Int) < (t120.size : Int) := of_decide_eq_true (by (with_reducible assumption)); omega); have hx8 : ∀ h : 0 < t120.size, ((t120[0]'h).toNat : Int) = bt t120 0 := bt_at t120 0; clear p8; have qi8 : (0 < (t120.size : Int)) = True := eq_true (of_decide_eq_true (by (with_reducible assumption))); replace q8 := eq_true q8))
            go_ret; exact ⟨by rfl, by repeat (first | exact Drawn0.refl _ | apply Drawn0.step)⟩
        · rw [if_neg c7] at H; exact absurd H (by simp)
      · replace c6 := Bool.eq_false_iff.mpr c6; subst c6
        have H1 : (some false) = some r := by rw [if_neg (show ¬ (false = true) by decide)] at H; exact H
        clear H; have H := H1; clear H1; obtain rfl := Option.some.inj H
        go_enter Try.func86, Try.ntmps86
        go_wp2_with (first | ((with_reducible refine q14 (f := 100) rfl ?_); refine goesL_ (some 7) rfl rfl Try.func100 (by kernel_rfl) rfl #[.string a0, .string (⟨#[45]⟩ : ByteArray)] rfl (by (try simp only [List.map_toArray, List.map_cons, List.map_nil]); rfl) ?_; (with_reducible refine (strings_CutPrefix.calls a0 (⟨#[45]⟩ : ByteArray) t120 t121 _ A2.out).mono ?_); rintro e w' ⟨rfl, ⟨nd, rfl⟩⟩; refine ⟨_, rfl, ?_⟩) | (go_at_call 87; (with_reducible refine (term_every.calls k t120 2 false _ A5.out).mono ?_); rintro e w' ⟨rfl, ⟨nd, rfl⟩⟩))
        go_ret; exact ⟨by rfl, by repeat (first | exact Drawn0.refl _ | apply Drawn0.step)⟩
def term_right.f (k : Nat) (a0_0 : Int) (a0_1 : ByteArray) (l0_2 : List (S44)) : Option (Bool) := if a0_0 = 4 then (some (a0_1.toList == ([] : List UInt8))) else (if a0_0 = 8 then ((term_identifier.f k a0_1 40).bind fun t124 => (some t124)) else (if (l0_2.length : Int) > 0 then (some false) else (if a0_0 = 1 then (some ((a0_1.size : Int) == 1)) else (if a0_0 = 2 then (if a0_1.toList = ([] : List UInt8) then (some false) else (if (a0_1.size : Int) ≤ 60 then ((strings_ContainsFunc.f a0_1).bind fun t125 => (some (!t125))) else (some false))) else (if a0_0 = 3 then ((term_isNumber.f k a0_1).bind fun t126 => (some t126)) else (if a0_0 = 5 then (if a0_1.toList = ([] : List UInt8) then (some false) else (if (a0_1.size : Int) ≤ 40 then ((term_every.f k a0_1 3).bind fun t127 => (some t127)) else (some false))) else (if a0_0 = 6 then (if a0_1.toList = ([] : List UInt8) then (some false) else (if (a0_1.size : Int) ≤ 40 then ((term_every.f k a0_1 3).bind fun t128 => (some t128)) else (some false))) else (if a0_0 = 7 then (if a0_1.toList = ([] : List UInt8) then (some false) else (if (a0_1.size : Int) ≤ 40 then ((term_every.f k a0_1 3).bind fun t129 => (some t129)) else (some false))) else (some false)))))))))
set_option maxHeartbeats 8000000 in
set_option maxRecDepth 100000 in
theorem term_right.calls (k : Nat) (a0_0 : Int) (a0_1 : ByteArray) (A0_2 : Option Addr) (c0_2 : Nat) (l0_2 : List (S44)) (r : Bool) (w : World) (hr0_2 : Kd.C k44 w A0_2 l0_2.length l0_2) (hc0_2 : l0_2.length ≤ c0_2) (h : term_right.f k a0_0 a0_1 l0_2 = some r) :
    Calls Try.prog 66 #[.agg #[.int .i64 a0_0, .string a0_1, .slice A0_2 l0_2.length c0_2]] w fun e w' => e = .returned (.bool r) ∧ Below w.heap.size w w' := by
  have hu44 := Try.underlying44; have HR0_2 := Aside0.mk hr0_2; have HC0_2 := Aside0.mk hc0_2; clear hr0_2 hc0_2; have HB := Aside0.mk (Below.refl w.heap.size w); have H : (if a0_0 = 4 then (some (a0_1.toList == ([] : List UInt8))) else (if a0_0 = 8 then ((term_identifier.f k a0_1 40).bind fun t124 => (some t124)) else (if (l0_2.length : Int) > 0 then (some false) else (if a0_0 = 1 then (some ((a0_1.size : Int) == 1)) else (if a0_0 = 2 then (if a0_1.toList = ([] : List UInt8) then (some false) else (if (a0_1.size : Int) ≤ 60 then ((strings_ContainsFunc.f a0_1).bind fun t125 => (some (!t125))) else (some false))) else (if a0_0 = 3 then ((term_isNumber.f k a0_1).bind fun t126 => (some t126)) else (if a0_0 = 5 then (if a0_1.toList = ([] : List UInt8) then (some false) else (if (a0_1.size : Int) ≤ 40 then ((term_every.f k a0_1 3).bind fun t127 => (some t127)) else (some false))) else (if a0_0 = 6 then (if a0_1.toList = ([] : List UInt8) then (some false) else (if (a0_1.size : Int) ≤ 40 then ((term_every.f k a0_1 3).bind fun t128 => (some t128)) else (some false))) else (if a0_0 = 7 then (if a0_1.toList = ([] : List UInt8) then (some false) else (if (a0_1.size : Int) ≤ 40 then ((term_every.f k a0_1 3).bind fun t129 => (some t129)) else (some false))) else (some false)))))))))) = some r := h; clear h
  by_cases c2 : a0_0 = 4
  · rw [if_pos c2] at H; have c2b0 : (a0_0 == 4) = true := beq_iff_eq.mpr c2; have c2b1 : (a0_0 != 4) = false := bne_eq_false_iff_eq.mpr c2; clear c2; obtain rfl := Option.some.inj H
    go_enter Try.func66, Try.ntmps66
    go_wp2_with (first | ((with_reducible refine q21 (N := 1) rfl ?_); (try (refine q25 (by rfl) ?_; dsimp only)); refine q22 ?hg (N := 1) ?hd (cs := #[.int .i64 a0_0, .string a0_1, .slice A0_2 l0_2.length c0_2]) (t := 44) ?hr ?_; (case hd => rfl); (case hg => rfl); (case hr => (go_simp; done)); intro gb123 hg w3 hbox hb; have n0_ := Aside0.mk (q10 (by with_reducible exact HB.out) hb); have n1_ := Aside0.mk (hbox); have n2_ := Aside0.mk ((by rw [hg]; exact (q3 (by with_reducible exact HB.out)) : w.heap.size ≤ gb123)); have n3_ := Aside0.mk ((by rw [hg]; exact (q3 (by with_reducible exact HB.out)) : w.heap.size ≤ gb123)); clear HB; have HB := n0_; have BK123 := n1_; have GW123 := n2_; have GE123 := n3_; clear n0_ n1_ n2_ n3_; clear hb hbox hg; have hcz4_0 : w3.cell? ⟨gb123, 0, none⟩ = some (.int .i64 a0_0) := (q5 BK123.out 0).trans rfl; have hcz4_1 : w3.cell? ⟨gb123, 1, none⟩ = some (.string a0_1) := (q5 BK123.out 1).trans rfl; have hcz4_2 : w3.cell? ⟨gb123, 2, none⟩ = some (.slice A0_2 l0_2.length c0_2) := (q5 BK123.out 2).trans rfl; have hfz4_0 := q11 BK123.out 0; have hfz4_1 := q11 BK123.out 1; have hfz4_2 := q11 BK123.out 2))
    go_ret; exact ⟨by rfl, by with_reducible exact HB.out⟩
  · rw [if_neg c2] at H; have c2b0 : (a0_0 == 4) = false := beq_eq_false_iff_ne.mpr c2; have c2b1 : (a0_0 != 4) = true := bne_iff_ne.mpr c2
    by_cases c5 : a0_0 = 8
    · rw [if_pos c5] at H; have c5b0 : (a0_0 == 8) = true := beq_iff_eq.mpr c5; have c5b1 : (a0_0 != 8) = false := bne_eq_false_iff_eq.mpr c5; clear c5; replace H := Option.bind_eq_some_iff.mp H; obtain ⟨t124, A60, H⟩ := H; replace H : (some t124) = some r := H; have A6 := Aside0.mk A60; clear A60; obtain rfl := Option.some.inj H
      go_enter Try.func66, Try.ntmps66
      go_wp2_with (first | ((with_reducible refine q21 (N := 1) rfl ?_); (try (refine q25 (by rfl) ?_; dsimp only)); refine q22 ?hg (N := 1) ?hd (cs := #[.int .i64 a0_0, .string a0_1, .slice A0_2 l0_2.length c0_2]) (t := 44) ?hr ?_; (case hd => rfl); (case hg => rfl); (case hr => (go_simp; done)); intro gb123 hg w7 hbox hb; have n0_ := Aside0.mk (q10 (by with_reducible exact HB.out) hb); have n1_ := Aside0.mk (hbox); have n2_ := Aside0.mk ((by rw [hg]; exact (q3 (by with_reducible exact HB.out)) : w.heap.size ≤ gb123)); have n3_ := Aside0.mk ((by rw [hg]; exact (q3 (by with_reducible exact HB.out)) : w.heap.size ≤ gb123)); clear HB; have HB := n0_; have BK123 := n1_; have GW123 := n2_; have GE123 := n3_; clear n0_ n1_ n2_ n3_; clear hb hbox hg; have hcz8_0 : w7.cell? ⟨gb123, 0, none⟩ = some (.int .i64 a0_0) := (q5 BK123.out 0).trans rfl; have hcz8_1 : w7.cell? ⟨gb123, 1, none⟩ = some (.string a0_1) := (q5 BK123.out 1).trans rfl; have hcz8_2 : w7.cell? ⟨gb123, 2, none⟩ = some (.slice A0_2 l0_2.length c0_2) := (q5 BK123.out 2).trans rfl; have hfz8_0 := q11 BK123.out 0; have hfz8_1 := q11 BK123.out 1; have hfz8_2 := q11 BK123.out 2) | ((with_reducible refine q14 (f := 83) rfl ?_); refine goesL_ (some 14) rfl rfl Try.func83 (by kernel_rfl) rfl #[.string a0_1, .int .i64 40] rfl (by (try simp only [List.map_toArray, List.map_cons, List.map_nil]); rfl) ?_; (with_reducible refine (term_identifier.calls k a0_1 40 t124 _ A6.out).mono ?_); rintro e w' ⟨rfl, ⟨nd, rfl⟩⟩; refine ⟨_, rfl, ?_⟩))
      go_ret; exact ⟨by rfl, by repeat ((with_reducible first | exact HB.out | apply q15))⟩
    · rw [if_neg c5] at H; have c5b0 : (a0_0 == 8) = false := beq_eq_false_iff_ne.mpr c5; have c5b1 : (a0_0 != 8) = true := bne_iff_ne.mpr c5
      by_cases c9 : (l0_2.length : Int) > 0
      · rw [if_pos c9] at H; have c9b0 : decide (0 < (l0_2.length : Int)) = true := decide_eq_true c9; have c9b1 : decide (0 < l0_2.length) = true := decide_eq_true (by omega); clear c9; obtain rfl := Option.some.inj H
        go_enter Try.func66, Try.ntmps66
        go_wp2_with (first | ((with_reducible refine q21 (N := 1) rfl ?_); (try (refine q25 (by rfl) ?_; dsimp only)); refine q22 ?hg (N := 1) ?hd (cs := #[.int .i64 a0_0, .string a0_1, .slice A0_2 l0_2.length c0_2]) (t := 44) ?hr ?_; (case hd => rfl); (case hg => rfl); (case hr => (go_simp; done)); intro gb123 hg w10 hbox hb; have n0_ := Aside0.mk (q10 (by with_reducible exact HB.out) hb); have n1_ := Aside0.mk (hbox); have n2_ := Aside0.mk ((by rw [hg]; exact (q3 (by with_reducible exact HB.out)) : w.heap.size ≤ gb123)); have n3_ := Aside0.mk ((by rw [hg]; exact (q3 (by with_reducible exact HB.out)) : w.heap.size ≤ gb123)); clear HB; have HB := n0_; have BK123 := n1_; have GW123 := n2_; have GE123 := n3_; clear n0_ n1_ n2_ n3_; clear hb hbox hg; have hcz11_0 : w10.cell? ⟨gb123, 0, none⟩ = some (.int .i64 a0_0) := (q5 BK123.out 0).trans rfl; have hcz11_1 : w10.cell? ⟨gb123, 1, none⟩ = some (.string a0_1) := (q5 BK123.out 1).trans rfl; have hcz11_2 : w10.cell? ⟨gb123, 2, none⟩ = some (.slice A0_2 l0_2.length c0_2) := (q5 BK123.out 2).trans rfl; have hfz11_0 := q11 BK123.out 0; have hfz11_1 := q11 BK123.out 1; have hfz11_2 := q11 BK123.out 2))
        go_ret; exact ⟨by rfl, by with_reducible exact HB.out⟩
      · rw [if_neg c9] at H; have c9b0 : decide (0 < (l0_2.length : Int)) = false := decide_eq_false c9; have c9b1 : decide (0 < l0_2.length) = false := decide_eq_false (by omega); clear c9
        by_cases c12 : a0_0 = 1
        · rw [if_pos c12] at H; have c12b0 : (a0_0 == 1) = true := beq_iff_eq.mpr c12; have c12b1 : (a0_0 != 1) = false := bne_eq_false_iff_eq.mpr c12; clear c12; obtain rfl := Option.some.inj H
          go_enter Try.func66, Try.ntmps66
          go_wp2_with (first | ((with_reducible refine q21 (N := 1) rfl ?_); (try (refine q25 (by rfl) ?_; dsimp only)); refine q22 ?hg (N := 1) ?hd (cs := #[.int .i64 a0_0, .string a0_1, .slice A0_2 l0_2.length c0_2]) (t := 44) ?hr ?_; (case hd => rfl); (case hg => rfl); (case hr => (go_simp; done)); intro gb123 hg w13 hbox hb; have n0_ := Aside0.mk (q10 (by with_reducible exact HB.out) hb); have n1_ := Aside0.mk (hbox); have n2_ := Aside0.mk ((by rw [hg]; exact (q3 (by with_reducible exact HB.out)) : w.heap.size ≤ gb123)); have n3_ := Aside0.mk ((by rw [hg]; exact (q3 (by with_reducible exact HB.out)) : w.heap.size ≤ gb123)); clear HB; have HB := n0_; have BK123 := n1_; have GW123 := n2_; have GE123 := n3_; clear n0_ n1_ n2_ n3_; clear hb hbox hg; have hcz14_0 : w13.cell? ⟨gb123, 0, none⟩ = some (.int .i64 a0_0) := (q5 BK123.out 0).trans rfl; have hcz14_1 : w13.cell? ⟨gb123, 1, none⟩ = some (.string a0_1) := (q5 BK123.out 1).trans rfl; have hcz14_2 : w13.cell? ⟨gb123, 2, none⟩ = some (.slice A0_2 l0_2.length c0_2) := (q5 BK123.out 2).trans rfl; have hfz14_0 := q11 BK123.out 0; have hfz14_1 := q11 BK123.out 1; have hfz14_2 := q11 BK123.out 2))
          go_ret; exact ⟨by rfl, by with_reducible exact HB.out⟩
        · rw [if_neg c12] at H; have c12b0 : (a0_0 == 1) = false := beq_eq_false_iff_ne.mpr c12; have c12b1 : (a0_0 != 1) = true := bne_iff_ne.mpr c12
          by_cases c15 : a0_0 = 2
          · rw [if_pos c15] at H; have c15b0 : (a0_0 == 2) = true := beq_iff_eq.mpr c15; have c15b1 : (a0_0 != 2) = false := bne_eq_false_iff_eq.mpr c15; clear c15
            by_cases c16 : a0_1.toList = ([] : List UInt8)
            · rw [if_pos c16] at H; have c16b0 : (a0_1.toList == ([] : List UInt8)) = true := beq_iff_eq.mpr c16; have c16b1 : (a0_1.toList != ([] : List UInt8)) = false := bne_eq_false_iff_eq.mpr c16; clear c16; obtain rfl := Option.some.inj H
              go_enter Try.func66, Try.ntmps66
              go_wp2_with (first | ((with_reducible refine q21 (N := 1) rfl ?_); (try (refine q25 (by rfl) ?_; dsimp only)); refine q22 ?hg (N := 1) ?hd (cs := #[.int .i64 a0_0, .string a0_1, .slice A0_2 l0_2.length c0_2]) (t := 44) ?hr ?_; (case hd => rfl); (case hg => rfl); (case hr => (go_simp; done)); intro gb123 hg w17 hbox hb; have n0_ := Aside0.mk (q10 (by with_reducible exact HB.out) hb); have n1_ := Aside0.mk (hbox); have n2_ := Aside0.mk ((by rw [hg]; exact (q3 (by with_reducible exact HB.out)) : w.heap.size ≤ gb123)); have n3_ := Aside0.mk ((by rw [hg]; exact (q3 (by with_reducible exact HB.out)) : w.heap.size ≤ gb123)); clear HB; have HB := n0_; have BK123 := n1_; have GW123 := n2_; have GE123 := n3_; clear n0_ n1_ n2_ n3_; clear hb hbox hg; have hcz18_0 : w17.cell? ⟨gb123, 0, none⟩ = some (.int .i64 a0_0) := (q5 BK123.out 0).trans rfl; have hcz18_1 : w17.cell? ⟨gb123, 1, none⟩ = some (.string a0_1) := (q5 BK123.out 1).trans rfl; have hcz18_2 : w17.cell? ⟨gb123, 2, none⟩ = some (.slice A0_2 l0_2.length c0_2) := (q5 BK123.out 2).trans rfl; have hfz18_0 := q11 BK123.out 0; have hfz18_1 := q11 BK123.out 1; have hfz18_2 := q11 BK123.out 2))
              go_ret; exact ⟨by rfl, by with_reducible exact HB.out⟩
            · rw [if_neg c16] at H; have c16b0 : (a0_1.toList == ([] : List UInt8)) = false := beq_eq_false_iff_ne.mpr c16; have c16b1 : (a0_1.toList != ([] : List UInt8)) = true := bne_iff_ne.mpr c16
              by_cases c19 : (a0_1.size : Int) ≤ 60
              · rw [if_pos c19] at H; have c19b0 : decide ((a0_1.size : Int) ≤ 60) = true := decide_eq_true c19; have c19b1 : decide (a0_1.size ≤ 60) = true := decide_eq_true (by omega); clear c19; replace H := Option.bind_eq_some_iff.mp H; obtain ⟨t125, A200, H⟩ := H; replace H : (some (!t125)) = some r := H; have A20 := Aside0.mk A200; clear A200; obtain rfl := Option.some.inj H
                go_enter Try.func66, Try.ntmps66
                go_wp2_with (first | ((with_reducible refine q21 (N := 1) rfl ?_); (try (refine q25 (by rfl) ?_; dsimp only)); refine q22 ?hg (N := 1) ?hd (cs := #[.int .i64 a0_0, .string a0_1, .slice A0_2 l0_2.length c0_2]) (t := 44) ?hr ?_; (case hd => rfl); (case hg => rfl); (case hr => (go_simp; done)); intro gb123 hg w21 hbox hb; have n0_ := Aside0.mk (q10 (by with_reducible exact HB.out) hb); have n1_ := Aside0.mk (hbox); have n2_ := Aside0.mk ((by rw [hg]; exact (q3 (by with_reducible exact HB.out)) : w.heap.size ≤ gb123)); have n3_ := Aside0.mk ((by rw [hg]; exact (q3 (by with_reducible exact HB.out)) : w.heap.size ≤ gb123)); clear HB; have HB := n0_; have BK123 := n1_; have GW123 := n2_; have GE123 := n3_; clear n0_ n1_ n2_ n3_; clear hb hbox hg; have hcz22_0 : w21.cell? ⟨gb123, 0, none⟩ = some (.int .i64 a0_0) := (q5 BK123.out 0).trans rfl; have hcz22_1 : w21.cell? ⟨gb123, 1, none⟩ = some (.string a0_1) := (q5 BK123.out 1).trans rfl; have hcz22_2 : w21.cell? ⟨gb123, 2, none⟩ = some (.slice A0_2 l0_2.length c0_2) := (q5 BK123.out 2).trans rfl; have hfz22_0 := q11 BK123.out 0; have hfz22_1 := q11 BK123.out 1; have hfz22_2 := q11 BK123.out 2) | (go_at_call 84; (with_reducible refine (strings_ContainsFunc.calls a0_1 t125 _ A20.out).mono ?_); rintro e w23 ⟨rfl, hb⟩; have n0_ := Aside0.mk (q16 (g := gb123) (o := .cells #[.int .i64 a0_0, .string a0_1, .slice A0_2 l0_2.length c0_2] 44 (0, 0)) (by exact BK123.out) hb); have n1_ := Aside0.mk (q10 (by with_reducible exact HB.out) hb); clear BK123; clear HB; have BK123 := n0_; have HB := n1_; clear n0_ n1_; (try clear hb); (try clear hb2); (try clear hk); (try clear hi)))
                go_ret; exact ⟨by rfl, by with_reducible exact HB.out⟩
              · rw [if_neg c19] at H; have c19b0 : decide ((a0_1.size : Int) ≤ 60) = false := decide_eq_false c19; have c19b1 : decide (a0_1.size ≤ 60) = false := decide_eq_false (by omega); clear c19; obtain rfl := Option.some.inj H
                go_enter Try.func66, Try.ntmps66
                go_wp2_with (first | ((with_reducible refine q21 (N := 1) rfl ?_); (try (refine q25 (by rfl) ?_; dsimp only)); refine q22 ?hg (N := 1) ?hd (cs := #[.int .i64 a0_0, .string a0_1, .slice A0_2 l0_2.length c0_2]) (t := 44) ?hr ?_; (case hd => rfl); (case hg => rfl); (case hr => (go_simp; done)); intro gb123 hg w24 hbox hb; have n0_ := Aside0.mk (q10 (by with_reducible exact HB.out) hb); have n1_ := Aside0.mk (hbox); have n2_ := Aside0.mk ((by rw [hg]; exact (q3 (by with_reducible exact HB.out)) : w.heap.size ≤ gb123)); have n3_ := Aside0.mk ((by rw [hg]; exact (q3 (by with_reducible exact HB.out)) : w.heap.size ≤ gb123)); clear HB; have HB := n0_; have BK123 := n1_; have GW123 := n2_; have GE123 := n3_; clear n0_ n1_ n2_ n3_; clear hb hbox hg; have hcz25_0 : w24.cell? ⟨gb123, 0, none⟩ = some (.int .i64 a0_0) := (q5 BK123.out 0).trans rfl; have hcz25_1 : w24.cell? ⟨gb123, 1, none⟩ = some (.string a0_1) := (q5 BK123.out 1).trans rfl; have hcz25_2 : w24.cell? ⟨gb123, 2, none⟩ = some (.slice A0_2 l0_2.length c0_2) := (q5 BK123.out 2).trans rfl; have hfz25_0 := q11 BK123.out 0; have hfz25_1 := q11 BK123.out 1; have hfz25_2 := q11 BK123.out 2))
                go_ret; exact ⟨by rfl, by with_reducible exact HB.out⟩
          · rw [if_neg c15] at H; have c15b0 : (a0_0 == 2) = false := beq_eq_false_iff_ne.mpr c15; have c15b1 : (a0_0 != 2) = true := bne_iff_ne.mpr c15
            by_cases c26 : a0_0 = 3
            · rw [if_pos c26] at H; have c26b0 : (a0_0 == 3) = true := beq_iff_eq.mpr c26; have c26b1 : (a0_0 != 3) = false := bne_eq_false_iff_eq.mpr c26; clear c26; replace H := Option.bind_eq_some_iff.mp H; obtain ⟨t126, A270, H⟩ := H; replace H : (some t126) = some r := H; have A27 := Aside0.mk A270; clear A270; obtain rfl := Option.some.inj H
              go_enter Try.func66, Try.ntmps66
              go_wp2_with (first | ((with_reducible refine q21 (N := 1) rfl ?_); (try (refine q25 (by rfl) ?_; dsimp only)); refine q22 ?hg (N := 1) ?hd (cs := #[.int .i64 a0_0, .string a0_1, .slice A0_2 l0_2.length c0_2]) (t := 44) ?hr ?_; (case hd => rfl); (case hg => rfl); (case hr => (go_simp; done)); intro gb123 hg w28 hbox hb; have n0_ := Aside0.mk (q10 (by with_reducible exact HB.out) hb); have n1_ := Aside0.mk (hbox); have n2_ := Aside0.mk ((by rw [hg]; exact (q3 (by with_reducible exact HB.out)) : w.heap.size ≤ gb123)); have n3_ := Aside0.mk ((by rw [hg]; exact (q3 (by with_reducible exact HB.out)) : w.heap.size ≤ gb123)); clear HB; have HB := n0_; have BK123 := n1_; have GW123 := n2_; have GE123 := n3_; clear n0_ n1_ n2_ n3_; clear hb hbox hg; have hcz29_0 : w28.cell? ⟨gb123, 0, none⟩ = some (.int .i64 a0_0) := (q5 BK123.out 0).trans rfl; have hcz29_1 : w28.cell? ⟨gb123, 1, none⟩ = some (.string a0_1) := (q5 BK123.out 1).trans rfl; have hcz29_2 : w28.cell? ⟨gb123, 2, none⟩ = some (.slice A0_2 l0_2.length c0_2) := (q5 BK123.out 2).trans rfl; have hfz29_0 := q11 BK123.out 0; have hfz29_1 := q11 BK123.out 1; have hfz29_2 := q11 BK123.out 2) | ((with_reducible refine q14 (f := 86) rfl ?_); refine goesL_ (some 48) rfl rfl Try.func86 (by kernel_rfl) rfl #[.string a0_1] rfl (by (try simp only [List.map_toArray, List.map_cons, List.map_nil]); rfl) ?_; (with_reducible refine (term_isNumber.calls k a0_1 t126 _ A27.out).mono ?_); rintro e w' ⟨rfl, ⟨nd, rfl⟩⟩; refine ⟨_, rfl, ?_⟩))
              go_ret; exact ⟨by rfl, by repeat ((with_reducible first | exact HB.out | apply q15))⟩
            · rw [if_neg c26] at H; have c26b0 : (a0_0 == 3) = false := beq_eq_false_iff_ne.mpr c26; have c26b1 : (a0_0 != 3) = true := bne_iff_ne.mpr c26
              by_cases c30 : a0_0 = 5
              · rw [if_pos c30] at H; have c30b0 : (a0_0 == 5) = true := beq_iff_eq.mpr c30; have c30b1 : (a0_0 != 5) = false := bne_eq_false_iff_eq.mpr c30; clear c30
                by_cases c31 : a0_1.toList = ([] : List UInt8)
                · rw [if_pos c31] at H; have c31b0 : (a0_1.toList == ([] : List UInt8)) = true := beq_iff_eq.mpr c31; have c31b1 : (a0_1.toList != ([] : List UInt8)) = false := bne_eq_false_iff_eq.mpr c31; clear c31; obtain rfl := Option.some.inj H
                  go_enter Try.func66, Try.ntmps66
                  go_wp2_with (first | ((with_reducible refine q21 (N := 1) rfl ?_); (try (refine q25 (by rfl) ?_; dsimp only)); refine q22 ?hg (N := 1) ?hd (cs := #[.int .i64 a0_0, .string a0_1, .slice A0_2 l0_2.length c0_2]) (t := 44) ?hr ?_; (case hd => rfl); (case hg => rfl); (case hr => (go_simp; done)); intro gb123 hg w32 hbox hb; have n0_ := Aside0.mk (q10 (by with_reducible exact HB.out) hb); have n1_ := Aside0.mk (hbox); have n2_ := Aside0.mk ((by rw [hg]; exact (q3 (by with_reducible exact HB.out)) : w.heap.size ≤ gb123)); have n3_ := Aside0.mk ((by rw [hg]; exact (q3 (by with_reducible exact HB.out)) : w.heap.size ≤ gb123)); clear HB; have HB := n0_; have BK123 := n1_; have GW123 := n2_; have GE123 := n3_; clear n0_ n1_ n2_ n3_; clear hb hbox hg; have hcz33_0 : w32.cell? ⟨gb123, 0, none⟩ = some (.int .i64 a0_0) := (q5 BK123.out 0).trans rfl; have hcz33_1 : w32.cell? ⟨gb123, 1, none⟩ = some (.string a0_1) := (q5 BK123.out 1).trans rfl; have hcz33_2 : w32.cell? ⟨gb123, 2, none⟩ = some (.slice A0_2 l0_2.length c0_2) := (q5 BK123.out 2).trans rfl; have hfz33_0 := q11 BK123.out 0; have hfz33_1 := q11 BK123.out 1; have hfz33_2 := q11 BK123.out 2))
                  go_ret; exact ⟨by rfl, by with_reducible exact HB.out⟩
                · rw [if_neg c31] at H; have c31b0 : (a0_1.toList == ([] : List UInt8)) = false := beq_eq_false_iff_ne.mpr c31; have c31b1 : (a0_1.toList != ([] : List UInt8)) = true := bne_iff_ne.mpr c31
                  by_cases c34 : (a0_1.size : Int) ≤ 40
                  · rw [if_pos c34] at H; have c34b0 : decide ((a0_1.size : Int) ≤ 40) = true := decide_eq_true c34; have c34b1 : decide (a0_1.size ≤ 40) = true := decide_eq_true (by omega); clear c34; replace H := Option.bind_eq_some_iff.mp H; obtain ⟨t127, A350, H⟩ := H; replace H : (some t127) = some r := H; have A35 := Aside0.mk A350; clear A350; obtain rfl := Option.some.inj H
                    go_enter Try.func66, Try.ntmps66
                    go_wp2_with (first | ((with_reducible refine q21 (N := 1) rfl ?_); (try (refine q25 (by rfl) ?_; dsimp only)); refine q22 ?hg (N := 1) ?hd (cs := #[.int .i64 a0_0, .string a0_1, .slice A0_2 l0_2.length c0_2]) (t := 44) ?hr ?_; (case hd => rfl); (case hg => rfl); (case hr => (go_simp; done)); intro gb123 hg w36 hbox hb; have n0_ := Aside0.mk (q10 (by with_reducible exact HB.out) hb); have n1_ := Aside0.mk (hbox); have n2_ := Aside0.mk ((by rw [hg]; exact (q3 (by with_reducible exact HB.out)) : w.heap.size ≤ gb123)); have n3_ := Aside0.mk ((by rw [hg]; exact (q3 (by with_reducible exact HB.out)) : w.heap.size ≤ gb123)); clear HB; have HB := n0_; have BK123 := n1_; have GW123 := n2_; have GE123 := n3_; clear n0_ n1_ n2_ n3_; clear hb hbox hg; have hcz37_0 : w36.cell? ⟨gb123, 0, none⟩ = some (.int .i64 a0_0) := (q5 BK123.out 0).trans rfl; have hcz37_1 : w36.cell? ⟨gb123, 1, none⟩ = some (.string a0_1) := (q5 BK123.out 1).trans rfl; have hcz37_2 : w36.cell? ⟨gb123, 2, none⟩ = some (.slice A0_2 l0_2.length c0_2) := (q5 BK123.out 2).trans rfl; have hfz37_0 := q11 BK123.out 0; have hfz37_1 := q11 BK123.out 1; have hfz37_2 := q11 BK123.out 2) | (go_at_call 87; (with_reducible refine (term_every.calls k a0_1 3 t127 _ A35.out).mono ?_); rintro e w' ⟨rfl, ⟨nd, rfl⟩⟩))
                    go_ret; exact ⟨by rfl, by repeat ((with_reducible first | exact HB.out | apply q15))⟩
                  · rw [if_neg c34] at H; have c34b0 : decide ((a0_1.size : Int) ≤ 40) = false := decide_eq_false c34; have c34b1 : decide (a0_1.size ≤ 40) = false := decide_eq_false (by omega); clear c34; obtain rfl := Option.some.inj H
                    go_enter Try.func66, Try.ntmps66
                    go_wp2_with (first | ((with_reducible refine q21 (N := 1) rfl ?_); (try (refine q25 (by rfl) ?_; dsimp only)); refine q22 ?hg (N := 1) ?hd (cs := #[.int .i64 a0_0, .string a0_1, .slice A0_2 l0_2.length c0_2]) (t := 44) ?hr ?_; (case hd => rfl); (case hg => rfl); (case hr => (go_simp; done)); intro gb123 hg w38 hbox hb; have n0_ := Aside0.mk (q10 (by with_reducible exact HB.out) hb); have n1_ := Aside0.mk (hbox); have n2_ := Aside0.mk ((by rw [hg]; exact (q3 (by with_reducible exact HB.out)) : w.heap.size ≤ gb123)); have n3_ := Aside0.mk ((by rw [hg]; exact (q3 (by with_reducible exact HB.out)) : w.heap.size ≤ gb123)); clear HB; have HB := n0_; have BK123 := n1_; have GW123 := n2_; have GE123 := n3_; clear n0_ n1_ n2_ n3_; clear hb hbox hg; have hcz39_0 : w38.cell? ⟨gb123, 0, none⟩ = some (.int .i64 a0_0) := (q5 BK123.out 0).trans rfl; have hcz39_1 : w38.cell? ⟨gb123, 1, none⟩ = some (.string a0_1) := (q5 BK123.out 1).trans rfl; have hcz39_2 : w38.cell? ⟨gb123, 2, none⟩ = some (.slice A0_2 l0_2.length c0_2) := (q5 BK123.out 2).trans rfl; have hfz39_0 := q11 BK123.out 0; have hfz39_1 := q11 BK123.out 1; have hfz39_2 := q11 BK123.out 2))
                    go_ret; exact ⟨by rfl, by with_reducible exact HB.out⟩
              · rw [if_neg c30] at H; have c30b0 : (a0_0 == 5) = false := beq_eq_false_iff_ne.mpr c30; have c30b1 : (a0_0 != 5) = true := bne_iff_ne.mpr c30
                by_cases c40 : a0_0 = 6
                · rw [if_pos c40] at H; have c40b0 : (a0_0 == 6) = true := beq_iff_eq.mpr c40; have c40b1 : (a0_0 != 6) = false := bne_eq_false_iff_eq.mpr c40; clear c40
                  by_cases c41 : a0_1.toList = ([] : List UInt8)
                  · rw [if_pos c41] at H; have c41b0 : (a0_1.toList == ([] : List UInt8)) = true := beq_iff_eq.mpr c41; have c41b1 : (a0_1.toList != ([] : List UInt8)) = false := bne_eq_false_iff_eq.mpr c41; clear c41; obtain rfl := Option.some.inj H
                    go_enter Try.func66, Try.ntmps66
                    go_wp2_with (first | ((with_reducible refine q21 (N := 1) rfl ?_); (try (refine q25 (by rfl) ?_; dsimp only)); refine q22 ?hg (N := 1) ?hd (cs := #[.int .i64 a0_0, .string a0_1, .slice A0_2 l0_2.length c0_2]) (t := 44) ?hr ?_; (case hd => rfl); (case hg => rfl); (case hr => (go_simp; done)); intro gb123 hg w42 hbox hb; have n0_ := Aside0.mk (q10 (by with_reducible exact HB.out) hb); have n1_ := Aside0.mk (hbox); have n2_ := Aside0.mk ((by rw [hg]; exact (q3 (by with_reducible exact HB.out)) : w.heap.size ≤ gb123)); have n3_ := Aside0.mk ((by rw [hg]; exact (q3 (by with_reducible exact HB.out)) : w.heap.size ≤ gb123)); clear HB; have HB := n0_; have BK123 := n1_; have GW123 := n2_; have GE123 := n3_; clear n0_ n1_ n2_ n3_; clear hb hbox hg; have hcz43_0 : w42.cell? ⟨gb123, 0, none⟩ = some (.int .i64 a0_0) := (q5 BK123.out 0).trans rfl; have hcz43_1 : w42.cell? ⟨gb123, 1, none⟩ = some (.string a0_1) := (q5 BK123.out 1).trans rfl; have hcz43_2 : w42.cell? ⟨gb123, 2, none⟩ = some (.slice A0_2 l0_2.length c0_2) := (q5 BK123.out 2).trans rfl; have hfz43_0 := q11 BK123.out 0; have hfz43_1 := q11 BK123.out 1; have hfz43_2 := q11 BK123.out 2))
                    go_ret; exact ⟨by rfl, by with_reducible exact HB.out⟩
                  · rw [if_neg c41] at H; have c41b0 : (a0_1.toList == ([] : List UInt8)) = false := beq_eq_false_iff_ne.mpr c41; have c41b1 : (a0_1.toList != ([] : List UInt8)) = true := bne_iff_ne.mpr c41
                    by_cases c44 : (a0_1.size : Int) ≤ 40
                    · rw [if_pos c44] at H; have c44b0 : decide ((a0_1.size : Int) ≤ 40) = true := decide_eq_true c44; have c44b1 : decide (a0_1.size ≤ 40) = true := decide_eq_true (by omega); clear c44; replace H := Option.bind_eq_some_iff.mp H; obtain ⟨t128, A450, H⟩ := H; replace H : (some t128) = some r := H; have A45 := Aside0.mk A450; clear A450; obtain rfl := Option.some.inj H
                      go_enter Try.func66, Try.ntmps66
                      go_wp2_with (first | ((with_reducible refine q21 (N := 1) rfl ?_); (try (refine q25 (by rfl) ?_; dsimp only)); refine q22 ?hg (N := 1) ?hd (cs := #[.int .i64 a0_0, .string a0_1, .slice A0_2 l0_2.length c0_2]) (t := 44) ?hr ?_; (case hd => rfl); (case hg => rfl); (case hr => (go_simp; done)); intro gb123 hg w46 hbox hb; have n0_ := Aside0.mk (q10 (by with_reducible exact HB.out) hb); have n1_ := Aside0.mk (hbox); have n2_ := Aside0.mk ((by rw [hg]; exact (q3 (by with_reducible exact HB.out)) : w.heap.size ≤ gb123)); have n3_ := Aside0.mk ((by rw [hg]; exact (q3 (by with_reducible exact HB.out)) : w.heap.size ≤ gb123)); clear HB; have HB := n0_; have BK123 := n1_; have GW123 := n2_; have GE123 := n3_; clear n0_ n1_ n2_ n3_; clear hb hbox hg; have hcz47_0 : w46.cell? ⟨gb123, 0, none⟩ = some (.int .i64 a0_0) := (q5 BK123.out 0).trans rfl; have hcz47_1 : w46.cell? ⟨gb123, 1, none⟩ = some (.string a0_1) := (q5 BK123.out 1).trans rfl; have hcz47_2 : w46.cell? ⟨gb123, 2, none⟩ = some (.slice A0_2 l0_2.length c0_2) := (q5 BK123.out 2).trans rfl; have hfz47_0 := q11 BK123.out 0; have hfz47_1 := q11 BK123.out 1; have hfz47_2 := q11 BK123.out 2) | (go_at_call 87; (with_reducible refine (term_every.calls k a0_1 3 t128 _ A45.out).mono ?_); rintro e w' ⟨rfl, ⟨nd, rfl⟩⟩))
                      go_ret; exact ⟨by rfl, by repeat ((with_reducible first | exact HB.out | apply q15))⟩
                    · rw [if_neg c44] at H; have c44b0 : decide ((a0_1.size : Int) ≤ 40) = false := decide_eq_false c44; have c44b1 : decide (a0_1.size ≤ 40) = false := decide_eq_false (by omega); clear c44; obtain rfl := Option.some.inj H
                      go_enter Try.func66, Try.ntmps66
                      go_wp2_with (first | ((with_reducible refine q21 (N := 1) rfl ?_); (try (refine q25 (by rfl) ?_; dsimp only)); refine q22 ?hg (N := 1) ?hd (cs := #[.int .i64 a0_0, .string a0_1, .slice A0_2 l0_2.length c0_2]) (t := 44) ?hr ?_; (case hd => rfl); (case hg => rfl); (case hr => (go_simp; done)); intro gb123 hg w48 hbox hb; have n0_ := Aside0.mk (q10 (by with_reducible exact HB.out) hb); have n1_ := Aside0.mk (hbox); have n2_ := Aside0.mk ((by rw [hg]; exact (q3 (by with_reducible exact HB.out)) : w.heap.size ≤ gb123)); have n3_ := Aside0.mk ((by rw [hg]; exact (q3 (by with_reducible exact HB.out)) : w.heap.size ≤ gb123)); clear HB; have HB := n0_; have BK123 := n1_; have GW123 := n2_; have GE123 := n3_; clear n0_ n1_ n2_ n3_; clear hb hbox hg; have hcz49_0 : w48.cell? ⟨gb123, 0, none⟩ = some (.int .i64 a0_0) := (q5 BK123.out 0).trans rfl; have hcz49_1 : w48.cell? ⟨gb123, 1, none⟩ = some (.string a0_1) := (q5 BK123.out 1).trans rfl; have hcz49_2 : w48.cell? ⟨gb123, 2, none⟩ = some (.slice A0_2 l0_2.length c0_2) := (q5 BK123.out 2).trans rfl; have hfz49_0 := q11 BK123.out 0; have hfz49_1 := q11 BK123.out 1; have hfz49_2 := q11 BK123.out 2))
                      go_ret; exact ⟨by rfl, by with_reducible exact HB.out⟩
                · rw [if_neg c40] at H; have c40b0 : (a0_0 == 6) = false := beq_eq_false_iff_ne.mpr c40; have c40b1 : (a0_0 != 6) = true := bne_iff_ne.mpr c40
                  by_cases c50 : a0_0 = 7
                  · rw [if_pos c50] at H; have c50b0 : (a0_0 == 7) = true := beq_iff_eq.mpr c50; have c50b1 : (a0_0 != 7) = false := bne_eq_false_iff_eq.mpr c50; clear c50
                    by_cases c51 : a0_1.toList = ([] : List UInt8)
                    · rw [if_pos c51] at H; have c51b0 : (a0_1.toList == ([] : List UInt8)) = true := beq_iff_eq.mpr c51; have c51b1 : (a0_1.toList != ([] : List UInt8)) = false := bne_eq_false_iff_eq.mpr c51; clear c51; obtain rfl := Option.some.inj H
                      go_enter Try.func66, Try.ntmps66
                      go_wp2_with (first | ((with_reducible refine q21 (N := 1) rfl ?_); (try (refine q25 (by rfl) ?_; dsimp only)); refine q22 ?hg (N := 1) ?hd (cs := #[.int .i64 a0_0, .string a0_1, .slice A0_2 l0_2.length c0_2]) (t := 44) ?hr ?_; (case hd => rfl); (case hg => rfl); (case hr => (go_simp; done)); intro gb123 hg w52 hbox hb; have n0_ := Aside0.mk (q10 (by with_reducible exact HB.out) hb); have n1_ := Aside0.mk (hbox); have n2_ := Aside0.mk ((by rw [hg]; exact (q3 (by with_reducible exact HB.out)) : w.heap.size ≤ gb123)); have n3_ := Aside0.mk ((by rw [hg]; exact (q3 (by with_reducible exact HB.out)) : w.heap.size ≤ gb123)); clear HB; have HB := n0_; have BK123 := n1_; have GW123 := n2_; have GE123 := n3_; clear n0_ n1_ n2_ n3_; clear hb hbox hg; have hcz53_0 : w52.cell? ⟨gb123, 0, none⟩ = some (.int .i64 a0_0) := (q5 BK123.out 0).trans rfl; have hcz53_1 : w52.cell? ⟨gb123, 1, none⟩ = some (.string a0_1) := (q5 BK123.out 1).trans rfl; have hcz53_2 : w52.cell? ⟨gb123, 2, none⟩ = some (.slice A0_2 l0_2.length c0_2) := (q5 BK123.out 2).trans rfl; have hfz53_0 := q11 BK123.out 0; have hfz53_1 := q11 BK123.out 1; have hfz53_2 := q11 BK123.out 2))
                      go_ret; exact ⟨by rfl, by with_reducible exact HB.out⟩
                    · rw [if_neg c51] at H; have c51b0 : (a0_1.toList == ([] : List UInt8)) = false := beq_eq_false_iff_ne.mpr c51; have c51b1 : (a0_1.toList != ([] : List UInt8)) = true := bne_iff_ne.mpr c51
                      by_cases c54 : (a0_1.size : Int) ≤ 40
                      · rw [if_pos c54] at H; have c54b0 : decide ((a0_1.size : Int) ≤ 40) = true := decide_eq_true c54; have c54b1 : decide (a0_1.size ≤ 40) = true := decide_eq_true (by omega); clear c54; replace H := Option.bind_eq_some_iff.mp H; obtain ⟨t129, A550, H⟩ := H; replace H : (some t129) = some r := H; have A55 := Aside0.mk A550; clear A550; obtain rfl := Option.some.inj H
                        go_enter Try.func66, Try.ntmps66
                        go_wp2_with (first | ((with_reducible refine q21 (N := 1) rfl ?_); (try (refine q25 (by rfl) ?_; dsimp only)); refine q22 ?hg (N := 1) ?hd (cs := #[.int .i64 a0_0, .string a0_1, .slice A0_2 l0_2.length c0_2]) (t := 44) ?hr ?_; (case hd => rfl); (case hg => rfl); (case hr => (go_simp; done)); intro gb123 hg w56 hbox hb; have n0_ := Aside0.mk (q10 (by with_reducible exact HB.out) hb); have n1_ := Aside0.mk (hbox); have n2_ := Aside0.mk ((by rw [hg]; exact (q3 (by with_reducible exact HB.out)) : w.heap.size ≤ gb123)); have n3_ := Aside0.mk ((by rw [hg]; exact (q3 (by with_reducible exact HB.out)) : w.heap.size ≤ gb123)); clear HB; have HB := n0_; have BK123 := n1_; have GW123 := n2_; have GE123 := n3_; clear n0_ n1_ n2_ n3_; clear hb hbox hg; have hcz57_0 : w56.cell? ⟨gb123, 0, none⟩ = some (.int .i64 a0_0) := (q5 BK123.out 0).trans rfl; have hcz57_1 : w56.cell? ⟨gb123, 1, none⟩ = some (.string a0_1) := (q5 BK123.out 1).trans rfl; have hcz57_2 : w56.cell? ⟨gb123, 2, none⟩ = some (.slice A0_2 l0_2.length c0_2) := (q5 BK123.out 2).trans rfl; have hfz57_0 := q11 BK123.out 0; have hfz57_1 := q11 BK123.out 1; have hfz57_2 := q11 BK123.out 2) | (go_at_call 87; (with_reducible refine (term_every.calls k a0_1 3 t129 _ A55.out).mono ?_); rintro e w' ⟨rfl, ⟨nd, rfl⟩⟩))
                        go_ret; exact ⟨by rfl, by repeat ((with_reducible first | exact HB.out | apply q15))⟩
                      · rw [if_neg c54] at H; have c54b0 : decide ((a0_1.size : Int) ≤ 40) = false := decide_eq_false c54; have c54b1 : decide (a0_1.size ≤ 40) = false := decide_eq_false (by omega); clear c54; obtain rfl := Option.some.inj H
                        go_enter Try.func66, Try.ntmps66
                        go_wp2_with (first | ((with_reducible refine q21 (N := 1) rfl ?_); (try (refine q25 (by rfl) ?_; dsimp only)); refine q22 ?hg (N := 1) ?hd (cs := #[.int .i64 a0_0, .string a0_1, .slice A0_2 l0_2.length c0_2]) (t := 44) ?hr ?_; (case hd => rfl); (case hg => rfl); (case hr => (go_simp; done)); intro gb123 hg w58 hbox hb; have n0_ := Aside0.mk (q10 (by with_reducible exact HB.out) hb); have n1_ := Aside0.mk (hbox); have n2_ := Aside0.mk ((by rw [hg]; exact (q3 (by with_reducible exact HB.out)) : w.heap.size ≤ gb123)); have n3_ := Aside0.mk ((by rw [hg]; exact (q3 (by with_reducible exact HB.out)) : w.heap.size ≤ gb123)); clear HB; have HB := n0_; have BK123 := n1_; have GW123 := n2_; have GE123 := n3_; clear n0_ n1_ n2_ n3_; clear hb hbox hg; have hcz59_0 : w58.cell? ⟨gb123, 0, none⟩ = some (.int .i64 a0_0) := (q5 BK123.out 0).trans rfl; have hcz59_1 : w58.cell? ⟨gb123, 1, none⟩ = some (.string a0_1) := (q5 BK123.out 1).trans rfl; have hcz59_2 : w58.cell? ⟨gb123, 2, none⟩ = some (.slice A0_2 l0_2.length c0_2) := (q5 BK123.out 2).trans rfl; have hfz59_0 := q11 BK123.out 0; have hfz59_1 := q11 BK123.out 1; have hfz59_2 := q11 BK123.out 2))
                        go_ret; exact ⟨by rfl, by with_reducible exact HB.out⟩
                  · rw [if_neg c50] at H; have c50b0 : (a0_0 == 7) = false := beq_eq_false_iff_ne.mpr c50; have c50b1 : (a0_0 != 7) = true := bne_iff_ne.mpr c50; obtain rfl := Option.some.inj H
                    go_enter Try.func66, Try.ntmps66
                    go_wp2_with (first | ((with_reducible refine q21 (N := 1) rfl ?_); (try (refine q25 (by rfl) ?_; dsimp only)); refine q22 ?hg (N := 1) ?hd (cs := #[.int .i64 a0_0, .string a0_1, .slice A0_2 l0_2.length c0_2]) (t := 44) ?hr ?_; (case hd => rfl); (case hg => rfl); (case hr => (go_simp; done)); intro gb123 hg w60 hbox hb; have n0_ := Aside0.mk (q10 (by with_reducible exact HB.out) hb); have n1_ := Aside0.mk (hbox); have n2_ := Aside0.mk ((by rw [hg]; exact (q3 (by with_reducible exact HB.out)) : w.heap.size ≤ gb123)); have n3_ := Aside0.mk ((by rw [hg]; exact (q3 (by with_reducible exact HB.out)) : w.heap.size ≤ gb123)); clear HB; have HB := n0_; have BK123 := n1_; have GW123 := n2_; have GE123 := n3_; clear n0_ n1_ n2_ n3_; clear hb hbox hg; have hcz61_0 : w60.cell? ⟨gb123, 0, none⟩ = some (.int .i64 a0_0) := (q5 BK123.out 0).trans rfl; have hcz61_1 : w60.cell? ⟨gb123, 1, none⟩ = some (.string a0_1) := (q5 BK123.out 1).trans rfl; have hcz61_2 : w60.cell? ⟨gb123, 2, none⟩ = some (.slice A0_2 l0_2.length c0_2) := (q5 BK123.out 2).trans rfl; have hfz61_0 := q11 BK123.out 0; have hfz61_1 := q11 BK123.out 1; have hfz61_2 := q11 BK123.out 2))
                    go_ret; exact ⟨by rfl, by with_reducible exact HB.out⟩
end Go.Proofs.Ytnffhiiihegjbaa.MD
