/- term.Variable. -/
import Derived.Test.YtdbjjaodkapikaaHTEPlain
import Derived.Test.YtdbjjaodkapikaaHTEWrites
import Derived.Deep.RegionWith
import Derived.Test.YtdbjjaodkapikaaHShelf
namespace Go.Proofs.Ytdbjjaodkapikaa.TE
open Go.RowKit Go.Shelf Go.Proofs.YtdbjjaodkapikaaW.PrintWords Go.Proofs.YtdbjjaodkapikaaW.PrintLast Go.Proofs.YtdbjjaodkapikaaW.PrintMore Go.Proofs.Ytdbjjaodkapikaa.Evs
set_option linter.unusedVariables false
set_option linter.unusedSimpArgs false
def idxB (b : UInt8) : Int := Lib.indexByte [115, 116, 101] b
def varT (s : ByteArray) (b : UInt8) : Tm := ⟨5 + idxB b, s.extract 2 s.size, []⟩
def varV (s : ByteArray) : Tm × Bool :=
  if h : 2 ≤ s.size then if s[1]'(by omega) = 46 ∧ (0 : Int) ≤ idxB (s[0]'(by omega)) ∧ rightS (varT s (s[0]'(by omega))) = true then (varT s (s[0]'(by omega)), true) else (z42, false) else (z42, false)
set_option maxRecDepth 20000 in
theorem idx_le (b : UInt8) : idxB b ≤ 2 ∧ -1 ≤ idxB b := by
  exact byte_all (fun b => idxB b ≤ 2 ∧ -1 ≤ idxB b) (by decide) b
theorem take_one (s : ByteArray) (h : 2 ≤ s.size) : s.extract 0 1 = ⟨#[s[0]'(by omega)]⟩ := by
  apply ba_ext; rw [extract_list]
  have hl : 0 < s.data.toList.length := by rw [← size_len]; omega
  rw [List.drop_zero, Nat.sub_zero]
  match hh : s.data.toList, hl with
  | x :: r, _ =>
    have : s[0]'(by omega) = x := by
      have h1 : s.data.toList[0]'hl = s[0]'(by omega) := by simp; rfl
      rw [← h1]; simp [hh]
    simp [this]
theorem blk3 {W : World} {b : Nat} {x0 y0 z0 x y z : Value} {t : TypeId} (h : W.heap[b]? = some (.cells #[x0, y0, z0] t (0, 0))) : (((W.setCell ⟨b, 0, none⟩ x).setCell ⟨b, 1, none⟩ y).setCell ⟨b, 2, none⟩ z).heap[b]? = some (.cells #[x, y, z] t (0, 0)) := by
  have := blk_set (blk_set (blk_set h 0 x) 1 y) 2 z
  simpa using this
theorem below3 {w W : World} {x y z : Value} (h : Below w.heap.size w W) : Below w.heap.size w (((W.setCell ⟨w.heap.size, 0, none⟩ x).setCell ⟨w.heap.size, 1, none⟩ y).setCell ⟨w.heap.size, 2, none⟩ z) :=
  ((h.setCell (p := ⟨w.heap.size, 0, none⟩) (by simp) _).setCell (p := ⟨w.heap.size, 1, none⟩) (by simp) _).setCell (p := ⟨w.heap.size, 2, none⟩) (by simp) _
theorem var_results {tmps : Array Value} {W : World} {b : Nat} {k : Int} {t : ByteArray} {u : Value} {v : Bool} (h2 : tmps.getD 2 undef = .pointer (some ⟨b, 0, none⟩)) (h3 : tmps.getD 3 undef = .bool v) (x0 : W.cell? ⟨b, 0, none⟩ = some (.int .i64 k)) (x1 : W.cell? ⟨b, 1, none⟩ = some (.string t)) (x2 : W.cell? ⟨b, 2, none⟩ = some u) :
    (results Try.f44 tmps).run Try.prog W = .ok (.tuple #[.agg #[.int .i64 k, .string t, u], .bool v]) W := by
  have h2' : tmps[2]?.getD undef = .pointer (some ⟨b, 0, none⟩) := by simpa using h2
  have h3' : tmps[3]?.getD undef = .bool v := by simpa using h3
  have hu := Try.underlying42; simp [results, Try.results44, h2', h3', go_sem, x0, x1, x2]
set_option maxRecDepth 100000 in
set_option maxHeartbeats 4000000 in
theorem Variable.calls (s : ByteArray) (w : World) (hs : s.size ≤ 1048576) :
    Calls Try.prog 44 #[.string s] w fun e w' => e = .returned (.tuple #[.agg #[.int .i64 (varV s).1.f0, .string (varV s).1.f1, .slice none 0 0], .bool (varV s).2]) ∧ Below w.heap.size w w' := by
  have hsi : (0 : Int) ≤ (s.size : Int) := Int.natCast_nonneg _; have hb0 : Below w.heap.size w (w.alloc (.cells #[.int .i64 0, .string ⟨#[]⟩, .slice none 0 0] 42)) := (Below.refl _ _).alloc (Nat.le_refl _) _; have hn0 := World.alloc_heap_new w (.cells #[.int .i64 0, .string ⟨#[]⟩, .slice none 0 0] 42); obtain ⟨W0, hW0⟩ : ∃ W0, w.alloc (.cells #[.int .i64 0, .string ⟨#[]⟩, .slice none 0 0] 42) = W0 := ⟨_, rfl⟩; have HW0 := Aside0.mk hW0; rw [hW0] at hb0 hn0; have HB0 := Aside0.mk hb0; have HN0 := Aside0.mk hn0; have x0 : W0.cell? ⟨w.heap.size, 0, none⟩ = some (.int .i64 0) := (q10 hn0 0).trans rfl; have x1 : W0.cell? ⟨w.heap.size, 1, none⟩ = some (.string ⟨#[]⟩) := (q10 hn0 1).trans rfl; have x2 : W0.cell? ⟨w.heap.size, 2, none⟩ = some (.slice none 0 0) := (q10 hn0 2).trans rfl; have f0 : W0.frozen? ⟨w.heap.size, 0, none⟩ = false := q11 hn0 0; have f1 : W0.frozen? ⟨w.heap.size, 1, none⟩ = false := q11 hn0 1; have f2 : W0.frozen? ⟨w.heap.size, 2, none⟩ = false := q11 hn0 2; clear hW0 hb0 hn0
  by_cases h2 : 2 ≤ s.size
  · have e1 : decide ((s.size : Int) < 2) = false := decide_eq_false (by omega)
    have hs1 : (1 : Int) < (s.size : Int) := by omega
    have hs2 : (2 : Int) ≤ (s.size : Int) := by omega
    have hs3 : (1 : Int) ≤ (s.size : Int) := by omega
    obtain ⟨b0, hb0⟩ : ∃ b0, b0 = s[0]'(by omega) := ⟨_, rfl⟩; obtain ⟨b1, hb1⟩ : ∃ b1, b1 = s[1]'(by omega) := ⟨_, rfl⟩
    have hbt : ((s[1]'(by omega)).toNat : Int) = (b1.toNat : Int) := by rw [hb1]
    have hv : varV s = if b1 = 46 ∧ 0 ≤ idxB b0 ∧ rightS (varT s b0) = true then (varT s b0, true) else (z42, false) := by unfold varV; rw [dif_pos h2, hb0, hb1]
    have hcon : ∀ w, Calls Try.prog 77 #[.string ⟨#[115, 116, 101]⟩, .string (s.extract 0 1)] w fun e w' => e = .returned (.bool (decide (0 ≤ idxB b0))) ∧ w' = w := by
      intro w; rw [take_one s h2, ← hb0]; exact Try.strings_Contains_one ⟨#[115, 116, 101]⟩ b0 w
    have hix : ∀ w, Calls Try.prog 78 #[.string ⟨#[115, 116, 101]⟩, .string (s.extract 0 1)] w fun e w' => e = .returned (.int .i64 (idxB b0)) ∧ w' = w := by
      intro w; rw [take_one s h2, ← hb0]; exact Try.strings_Index_one ⟨#[115, 116, 101]⟩ b0 w
    obtain ⟨hi2, hi1⟩ := idx_le b0
    obtain ⟨k, hk⟩ := (right_ev (x := varT s b0) (by
      have h1 := size_len (s.extract 2 s.size); rw [extract_list, List.length_take, List.length_drop, ← size_len] at h1; show (s.extract 2 s.size).size ≤ _
      omega)).get
    have HV := Aside0.mk hv; have HCON := Aside0.mk hcon; have HIX := Aside0.mk hix; have HK : Aside0 (term_right.f k (5 + idxB b0) (s.extract 2 s.size) [] = some (rightS (varT s b0))) := ⟨hk⟩
    have hw : IntKind.i64.wrap (5 + idxB b0) = 5 + idxB b0 := by rw [i64_w]; rw [wrap64_id (by omega) (by omega)]
    have HI1 := Aside0.mk hi1; clear hb0 hb1 hv hcon hix hi2 hi1 hk
    by_cases h46 : b1 = 46
    · have e46 : ((b1.toNat : Int) != 46) = false := by rw [h46]; rfl
      rw [h46] at HV; have HV' := HV.out
      by_cases h0 : 0 ≤ idxB b0
      · obtain ⟨r, hr⟩ : ∃ r, r = rightS (varT s b0) := ⟨_, rfl⟩; have hd0 : decide (0 ≤ idxB b0) = true := decide_eq_true h0; have HKR : Aside0 (term_right.f k (5 + idxB b0) (s.extract 2 s.size) [] = some r) := ⟨by rw [hr]; exact HK.out⟩; have HVR : Aside0 (varV s = if r = true then (varT s b0, true) else (z42, false)) := ⟨by rw [HV', ← hr]; simp [h0]⟩; rw [hd0] at HCON; clear HV HV' HK hr h46 hd0
        go_enter Try.func44, Try.ntmps44
        go_wp2_with fail
        rw [HW0.out]
        go_wp2_with fail
        refine (HCON.out _).mono ?_; rintro e w1 ⟨rfl, rfl⟩
        go_wp2_with fail
        go_region_with (first | (go_at_call 78; refine (HIX.out _).mono ?_; rintro e w2 ⟨rfl, rfl⟩))
        all_goals
          have hn4 := World.alloc_heap_new w1 (.cells #[.int .i64 (5 + idxB b0), .string (s.extract 2 s.size), .slice none 0 0] 42); have hb4 : Below w1.heap.size w1 (w1.alloc (.cells #[.int .i64 (5 + idxB b0), .string (s.extract 2 s.size), .slice none 0 0] 42)).drew := below_drew ((Below.refl _ _).alloc (Nat.le_refl _) _); obtain ⟨W4, hW4⟩ : ∃ W4, (w1.alloc (.cells #[.int .i64 (5 + idxB b0), .string (s.extract 2 s.size), .slice none 0 0] 42)).drew = W4 := ⟨_, rfl⟩
          have hn4' : W4.heap[w1.heap.size]? = some (.cells #[.int .i64 (5 + idxB b0), .string (s.extract 2 s.size), .slice none 0 0] 42 (0, 0)) := by rw [← hW4]; exact hn4
          rw [hW4] at hb4 ⊢; have HN4 := Aside0.mk hn4'; have y0 : W4.cell? ⟨w1.heap.size, 0, none⟩ = some (.int .i64 (5 + idxB b0)) := (q10 hn4' 0).trans rfl; have y1 : W4.cell? ⟨w1.heap.size, 1, none⟩ = some (.string (s.extract 2 s.size)) := (q10 hn4' 1).trans rfl; have y2 : W4.cell? ⟨w1.heap.size, 2, none⟩ = some (.slice none 0 0) := (q10 hn4' 2).trans rfl; have HZ4 := Aside0.mk ((hb4.block _ (Array.getElem?_eq_some_iff.1 HN0.out).1).trans HN0.out); have HB4 := Aside0.mk (q14 HB0.out hb4); clear hn4 hb4 hW4 hn4' x0 x1 x2 f0 f1 f2
          go_wp2_with fail
          refine (term_right.calls k (5 + idxB b0) (s.extract 2 s.size) none 0 [] r W4 (Kd.C_nil k42 W4) (Nat.le_refl _) HKR.out).mono ?_; rintro e w5 ⟨rfl, hb5⟩; have hn5 := (hb5.block _ (Array.getElem?_eq_some_iff.1 HN4.out).1).trans HN4.out; have hz5 := (hb5.block _ (Array.getElem?_eq_some_iff.1 HZ4.out).1).trans HZ4.out; have z0 : w5.cell? ⟨w1.heap.size, 0, none⟩ = some (.int .i64 (5 + idxB b0)) := (q10 hn5 0).trans rfl; have z1 : w5.cell? ⟨w1.heap.size, 1, none⟩ = some (.string (s.extract 2 s.size)) := (q10 hn5 1).trans rfl; have z2 : w5.cell? ⟨w1.heap.size, 2, none⟩ = some (.slice none 0 0) := (q10 hn5 2).trans rfl; have x0 : w5.cell? ⟨w.heap.size, 0, none⟩ = some (.int .i64 0) := (q10 hz5 0).trans rfl; have x1 : w5.cell? ⟨w.heap.size, 1, none⟩ = some (.string ⟨#[]⟩) := (q10 hz5 1).trans rfl; have x2 : w5.cell? ⟨w.heap.size, 2, none⟩ = some (.slice none 0 0) := (q10 hz5 2).trans rfl; have f0 : w5.frozen? ⟨w.heap.size, 0, none⟩ = false := q11 hz5 0; have f1 : w5.frozen? ⟨w.heap.size, 1, none⟩ = false := q11 hz5 1; have f2 : w5.frozen? ⟨w.heap.size, 2, none⟩ = false := q11 hz5 2; have HZ5 := Aside0.mk hz5; have HB5 := Aside0.mk (q14 HB4.out hb5); clear hn5 hz5 hb5 y0 y1 y2
          cases r with
          | false =>
            go_wp2_with fail
            (first
              | (refine bodyPost_ret (var_results (b := w.heap.size) rfl rfl x0 x1 x2) rfl ?_; exact ⟨by rw [HVR.out]; rfl, HB5.out⟩)
              | (refine bodyPost_ret (var_results (b := w.heap.size) rfl rfl ((q10 (blk3 HZ5.out) 0).trans rfl) ((q10 (blk3 HZ5.out) 1).trans rfl) ((q10 (blk3 HZ5.out) 2).trans rfl)) rfl ?_; exact ⟨by rw [HVR.out]; rfl, below3 HB5.out⟩))
          | true =>
            go_wp2_with fail
            refine bodyPost_ret (var_results (b := w.heap.size) rfl rfl ((q10 (blk3 HZ5.out) 0).trans rfl) ((q10 (blk3 HZ5.out) 1).trans rfl) ((q10 (blk3 HZ5.out) 2).trans rfl)) rfl ?_; exact ⟨by rw [HVR.out]; rfl, below3 HB5.out⟩
      · have hd0 : decide (0 ≤ idxB b0) = false := decide_eq_false h0; have HVR : Aside0 (varV s = (z42, false)) := ⟨by rw [HV', if_neg (fun h => h0 h.2.1)]⟩; rw [hd0] at HCON; clear HV HV' HK h46 hd0 h0
        go_enter Try.func44, Try.ntmps44
        go_wp2_with fail
        rw [HW0.out]
        go_wp2_with fail
        refine (HCON.out _).mono ?_; rintro e w1 ⟨rfl, rfl⟩
        go_wp2_with fail
        (first
          | (refine bodyPost_ret (var_results (b := w.heap.size) rfl rfl x0 x1 x2) rfl ?_; exact ⟨by rw [HVR.out]; rfl, HB0.out⟩)
          | (refine bodyPost_ret (var_results (b := w.heap.size) rfl rfl ((q10 (blk3 HN0.out) 0).trans rfl) ((q10 (blk3 HN0.out) 1).trans rfl) ((q10 (blk3 HN0.out) 2).trans rfl)) rfl ?_; exact ⟨by rw [HVR.out]; rfl, below3 HB0.out⟩))
    · have e46 : ((b1.toNat : Int) != 46) = true := by
        have : b1.toNat ≠ 46 := fun e => h46 (UInt8.toNat_inj.1 e)
        simp; omega
      have HVR : Aside0 (varV s = (z42, false)) := ⟨by rw [HV.out, if_neg (fun h => h46 h.1)]⟩; clear HV HK h46
      go_enter Try.func44, Try.ntmps44
      go_wp2_with fail
      rw [HW0.out]
      go_wp2_with fail
      refine bodyPost_ret (var_results (b := w.heap.size) rfl rfl x0 x1 x2) rfl ?_; exact ⟨by rw [HVR.out]; rfl, HB0.out⟩
  · have e1 : decide ((s.size : Int) < 2) = true := decide_eq_true (by omega)
    have hv : varV s = (z42, false) := by unfold varV; rw [dif_neg h2]
    have HV := Aside0.mk hv; clear hv h2
    go_enter Try.func44, Try.ntmps44
    go_wp2_with fail
    rw [HW0.out]
    go_wp2_with fail
    refine bodyPost_ret (var_results (b := w.heap.size) rfl rfl x0 x1 x2) rfl ?_; exact ⟨by rw [HV.out]; rfl, HB0.out⟩
end Go.Proofs.Ytdbjjaodkapikaa.TE
