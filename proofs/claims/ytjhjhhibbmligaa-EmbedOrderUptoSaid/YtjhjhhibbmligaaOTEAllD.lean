/- term.all, where the body may also write rows of strings of its own. -/
import Derived.Test.YtjhjhhibbmligaaOTEBa
import Derived.Test.YtjhjhhibbmligaaOTEPa
import Derived.Test.YtjhjhhibbmligaaOTEWrites
import Derived.Test.YtjhjhhibbmligaaOShelf
import Derived.Deep.RegionWith
section
namespace Go.Proofs.Ytjhjhhibbmligaa.TE
open Go.RowKit Go.Shelf Go.Proofs.YtjhjhhibbmligaaW.PrintWords Go.Proofs.YtjhjhhibbmligaaW.PrintLast Go.Proofs.YtjhjhhibbmligaaW.PrintMore Go.Proofs.Ytjhjhhibbmligaa.Evs
set_option linter.unusedVariables false
set_option linter.unusedSimpArgs false
def chrOk (x : Tm) : Bool := decide (x.f0 = 1) && rightS x
def strL (l : List Tm) : List UInt8 := l.flatMap (fun x => x.f1.data.toList)
def strR (l : List Tm) : ByteArray × Bool := if l.all chrOk = true then (⟨(strL l).toArray⟩, true) else (⟨#[]⟩, false)
theorem strL_len : ∀ l : List Tm, (strL l).length ≤ bk42s l
  | [] => by simp [strL]
  | x :: r => by
    have := strL_len r
    have h1 : bk42s (x :: r) = bk42 x + bk42s r := by simp [bk42s]
    have h2 := bk42_eq x; have h3 := size_len x.f1; have h4 : strL (x :: r) = x.f1.data.toList ++ strL r := rfl; rw [h4, List.length_append, h1, h2]
    omega
theorem take_succ_at {l : List Tm} {q : Nat} {x : Tm} (h : l[q]? = some x) : l.take (q + 1) = l.take q ++ [x] := by rw [List.take_add_one, h]; rfl
theorem strL_take {l : List Tm} {q : Nat} {x : Tm} (h : l[q]? = some x) : strL (l.take (q + 1)) = strL (l.take q) ++ x.f1.data.toList := by
  rw [take_succ_at h]; simp [strL]
theorem strL_take_len {l : List Tm} (q : Nat) : (strL (l.take q)).length ≤ (strL l).length := by
  have h : strL l = strL (l.take q) ++ strL (l.drop q) := by
    simp only [strL, ← List.flatMap_append, List.take_append_drop]
  rw [h, List.length_append]; omega
theorem strR_no {l : List Tm} {q : Nat} {x : Tm} (h : l[q]? = some x) (hx : chrOk x = false) : strR l = (⟨#[]⟩, false) := by
  unfold strR; rw [if_neg]; intro ha; rw [List.all_eq_true] at ha; rw [ha x (List.mem_of_getElem? h)] at hx; cases hx
set_option maxRecDepth 100000 in
set_option maxHeartbeats 4000000 in
theorem String.calls (A : Option Addr) (c : Nat) (l : List Tm) (w : World) (hC : Kd.C k42 w A l.length l) (hc : l.length ≤ c) (hb : bk42s l ≤ 1048576) :
    Calls Try.prog 61 #[.slice A l.length c] w fun e w' => e = .returned (.tuple #[.string (strR l).1, .bool (strR l).2]) ∧ Below w.heap.size w w' := by
  have hB0 : Below w.heap.size w (w.alloc (.cells #[.pointer none, .slice none 0 0] 134)) := (Below.refl _ _).alloc (Nat.le_refl _) _; have hIs : IsB w.heap.size w.heap.size [] (w.alloc (.cells #[.pointer none, .slice none 0 0] 134)) := Lib.fresh_isBuilder _ _ w; obtain ⟨W0, hW0⟩ : ∃ W0, w.alloc (.cells #[.pointer none, .slice none 0 0] 134) = W0 := ⟨_, rfl⟩; have HW0 := Aside0.mk hW0; rw [hW0] at hB0 hIs; have hlen := strL_len l; have HSL : Aside0 ((strL l).length ≤ 1048576) := ⟨by omega⟩; have HLEN : Aside0 (l.length ≤ 1048576) := ⟨by have := bk_len l; omega⟩; have HBK := Aside0.mk hb; have HC := Aside0.mk hC; have HB0 := Aside0.mk hB0; have HIS := Aside0.mk hIs; clear hB0 hIs hW0 hC hb hlen
  go_enter Try.func61, Try.ntmps61
  go_wp2_with fail
  rw [HW0.out]
  go_loopw [10] (fun i wr => ∃ q : Nat, i = .int .i64 q ∧ q ≤ l.length ∧ Aside0 (IsB w.heap.size w.heap.size (Lib.byteCells (strL (l.take q))) wr) ∧ Aside0 (Below w.heap.size w wr) ∧ Aside0 ((l.take q).all chrOk = true)) (fun i wr => l.length - (intOf i).toNat)
  case atStart => exact ⟨0, rfl, Nat.zero_le _, ⟨by simpa [Lib.byteCells, strL] using HIS.out⟩, HB0, ⟨rfl⟩⟩
  case round =>
    obtain ⟨q, rfl, hq, HI, HBr, HP⟩ := hrel; have hq0 : (0 : Int) ≤ (q : Int) := Int.natCast_nonneg _
    by_cases hlt : q < l.length
    · obtain ⟨x, hx⟩ : ∃ x, l[q]? = some x := ⟨_, List.getElem?_eq_getElem hlt⟩; obtain ⟨ad, A2, c2, rfl, hx0, hx1, hx2, hl2, hr2⟩ := at_T42 HC.out (q : Int) (by omega) (by omega)
      have hrd : rd_T42 l (q : Int) = x := by simp [rd_T42, List.getD_eq_getElem?_getD, hx]
      rw [hrd] at hx0 hx1 hx2 hl2 hr2; rw [Int.toNat_natCast] at hx0 hx1 hx2; replace hx0 := (HBr.out.cell (World.block_lt_of_cell? w _ hx0)).trans hx0; replace hx1 := (HBr.out.cell (World.block_lt_of_cell? w _ hx1)).trans hx1; replace hx2 := (HBr.out.cell (World.block_lt_of_cell? w _ hx2)).trans hx2
      have hlb : decide ((q : Int) < (l.length : Int)) = true := by simp; omega
      have hqi : (q : Int) < (l.length : Int) := by omega
      have hw : IntKind.i64.wrap ((q : Int) + 1) = (q : Int) + 1 := by have := HLEN.out; rw [i64_w]; rw [wrap64_id (by omega) (by omega)]
      have hmem : x ∈ l := List.mem_of_getElem? hx; have hbm := bk_mem hmem; obtain ⟨k, hk⟩ := (right_ev (x := x) (by have := HBK.out; omega)).get; have HK := Aside0.mk hk; have HX := Aside0.mk hx; have HR2 := Aside0.mk (Kd.C_below hr2 HBr.out); have HL2 := Aside0.mk hl2; have hna := World.alloc_heap_new wr (.cells #[.int .i64 x.f0, .string x.f1, .slice A2 x.f2.length c2] 42); have hba : Below wr.heap.size wr (wr.alloc (.cells #[.int .i64 x.f0, .string x.f1, .slice A2 x.f2.length c2] 42)) := (Below.refl _ wr).alloc (Nat.le_refl _) _; have HIa := Aside0.mk (IsB.alloc HI.out (.cells #[.int .i64 x.f0, .string x.f1, .slice A2 x.f2.length c2] 42)); obtain ⟨Wa, hWa⟩ : ∃ Wa, wr.alloc (.cells #[.int .i64 x.f0, .string x.f1, .slice A2 x.f2.length c2] 42) = Wa := ⟨_, rfl⟩; have HWa := Aside0.mk hWa; rw [hWa] at hna hba HIa; have a0 : Wa.cell? ⟨wr.heap.size, 0, none⟩ = some (.int .i64 x.f0) := (q4 hna 0).trans rfl; have a1 : Wa.cell? ⟨wr.heap.size, 1, none⟩ = some (.string x.f1) := (q4 hna 1).trans rfl; have a2 : Wa.cell? ⟨wr.heap.size, 2, none⟩ = some (.slice A2 x.f2.length c2) := (q4 hna 2).trans rfl; have HNA := Aside0.mk hna; have HBA := Aside0.mk (q12 HBr.out hba); have HBA1 := Aside0.mk hba; clear hx hmem hbm hk hna hba hr2 hl2 hrd hWa
      by_cases h1 : x.f0 = 1
      · have e1 : (x.f0 != 1) = false := by simp; exact h1
        obtain ⟨r, hr⟩ : ∃ r, r = rightS x := ⟨_, rfl⟩
        have hck : chrOk x = r := by unfold chrOk; rw [decide_eq_true h1, hr]; rfl
        have HCK := Aside0.mk hck; have HKR : Aside0 (term_right.f k x.f0 x.f1 x.f2 = some r) := ⟨by rw [hr]; exact HK.out⟩; clear hr hck h1
        cases r with
        | false =>
          have HN := Aside0.mk (strR_no HX.out HCK.out)
          go_wp2_with fail
          rw [HWa.out]
          go_wp2_with fail
          refine (term_right.calls k x.f0 x.f1 A2 c2 x.f2 false Wa (Kd.C_below HR2.out HBA1.out) HL2.out HKR.out).mono ?_; rintro e w2 ⟨rfl, hb2⟩; have HB2 := Aside0.mk (q12 HBA.out hb2); clear hb2
          go_wp2_with fail
          go_ret2
          exact ⟨by rw [HN.out]; rfl, HB2.out⟩
        | true =>
          go_wp2_with fail
          rw [HWa.out]
          go_wp2_with fail
          refine (term_right.calls k x.f0 x.f1 A2 c2 x.f2 true Wa (Kd.C_below HR2.out HBA1.out) HL2.out HKR.out).mono ?_; rintro e w2 ⟨rfl, hb2⟩; have HI2 := Aside0.mk (HIa.out.below hb2); have HB2 := Aside0.mk (q12 HBA.out hb2); have b1 : w2.cell? ⟨wr.heap.size, 1, none⟩ = some (.string x.f1) := (q4 ((hb2.block _ (Array.getElem?_eq_some_iff.1 HNA.out).1).trans HNA.out) 1).trans rfl
          have hsl : (Lib.byteCells (strL (l.take q))).length + x.f1.size ≤ 140737488355328 := by
            have h1 := strL_take_len (l := l) (q + 1); rw [strL_take HX.out, List.length_append, ← size_len] at h1; have := HSL.out; rw [Lib.byteCells_length]
            omega
          have HSL2 := Aside0.mk hsl; clear hb2 a0 a1 a2 hsl
          go_wp2_with fail
          refine (WriteString.calls w.heap.size w.heap.size _ x.f1 w2 HI2.out HSL2.out HB2.out.size).mono ?_; rintro e w3 ⟨rfl, hx3, hb3, _⟩; have HI3 := Aside0.mk (isB_of hx3); have HB3 := Aside0.mk (HB2.out.trans hb3); clear hx3 hb3 b1
          go_wp2_with fail
          go_roundw
          case rel =>
            refine ⟨q + 1, by go_num, by omega, ⟨?_⟩, HB3, ⟨?_⟩⟩
            · have := HI3.out; rw [strL_take HX.out, Lib.byteCells_append]; exact this
            · rw [take_succ_at HX.out, List.all_append, HP.out]; simp [HCK.out]
          case measure => simp [intOf]; omega
      · have e1 : (x.f0 != 1) = true := by simp; exact h1
        have HN := Aside0.mk (strR_no HX.out (by unfold chrOk; rw [decide_eq_false h1]; rfl)); clear h1
        go_wp2_with fail
        rw [HWa.out]
        go_wp2_with fail
        go_ret2
        exact ⟨by rw [HN.out]; rfl, HBA.out⟩
    · have hlb : decide ((q : Int) < (l.length : Int)) = false := decide_eq_false (by omega); have hlb' : decide (q < l.length) = false := decide_eq_false hlt; have hqe : l.take q = l := List.take_of_length_le (by omega); rw [hqe] at HI HP; have HR : Aside0 (strR l = (⟨(strL l).toArray⟩, true)) := ⟨by unfold strR; rw [if_pos HP.out]⟩; clear hlt hqe
      go_wp2_with fail
      refine (Try.Builder_String_any w.heap.size w.heap.size (strL l) _ HI.out HBr.out.size).mono ?_; rintro e w3 ⟨rfl, hb3⟩; have HB3 := Aside0.mk (HBr.out.trans hb3); clear hb3
      go_wp2_with fail
      go_ret2
      exact ⟨by rw [HR.out]; rfl, HB3.out⟩
end Go.Proofs.Ytjhjhhibbmligaa.TE
end
section
namespace Go.Proofs.Ytjhjhhibbmligaa.TE
open Go.RowKit Go.Shelf Go.Proofs.YtjhjhhibbmligaaW.PrintWords Go.Proofs.YtjhjhhibbmligaaW.PrintLast Go.Proofs.YtjhjhhibbmligaaW.PrintMore Go.Proofs.Ytjhjhhibbmligaa.Evs
set_option linter.unusedVariables false
set_option linter.unusedSimpArgs false
def idxB (b : UInt8) : Int := Lib.indexByte [115, 116, 101] b
def varT (s : ByteArray) (b : UInt8) : Tm := ⟨5 + idxB b, s.extract 2 s.size, []⟩
def varV (s : ByteArray) : Tm × Bool :=
  if h : 2 ≤ s.size then if s[1]'(by omega) = 46 ∧ (0 : Int) ≤ idxB (s[0]'(by omega)) ∧ rightS (varT s (s[0]'(by omega))) = true then (varT s (s[0]'(by omega)), true) else (z42, false) else (z42, false)
set_option maxRecDepth 20000 in
theorem idx_le (b : UInt8) : idxB b ≤ 2 ∧ -1 ≤ idxB b := by
  exact byte_all (fun b => idxB b ≤ 2 ∧ -1 ≤ idxB b) (by decide) b
theorem take_one (s : ByteArray) (h : 2 ≤ s.size) : s.extract 0 1 = ⟨#[s[0]'(by omega)]⟩ := by
  apply ba_ext; rw [extract_list]
  have hl : 0 < s.data.toList.length := by rw [← size_len]; omega
  rw [List.drop_zero, Nat.sub_zero]
  match hh : s.data.toList, hl with
  | x :: r, _ =>
    have : s[0]'(by omega) = x := by
      have h1 : s.data.toList[0]'hl = s[0]'(by omega) := by simp; rfl
      rw [← h1]; simp [hh]
    simp [this]
theorem blk3 {W : World} {b : Nat} {x0 y0 z0 x y z : Value} {t : TypeId} (h : W.heap[b]? = some (.cells #[x0, y0, z0] t (0, 0))) : (((W.setCell ⟨b, 0, none⟩ x).setCell ⟨b, 1, none⟩ y).setCell ⟨b, 2, none⟩ z).heap[b]? = some (.cells #[x, y, z] t (0, 0)) := by
  have := blk_set (blk_set (blk_set h 0 x) 1 y) 2 z
  simpa using this
theorem below3 {w W : World} {x y z : Value} (h : Below w.heap.size w W) : Below w.heap.size w (((W.setCell ⟨w.heap.size, 0, none⟩ x).setCell ⟨w.heap.size, 1, none⟩ y).setCell ⟨w.heap.size, 2, none⟩ z) :=
  ((h.setCell (p := ⟨w.heap.size, 0, none⟩) (by simp) _).setCell (p := ⟨w.heap.size, 1, none⟩) (by simp) _).setCell (p := ⟨w.heap.size, 2, none⟩) (by simp) _
theorem var_results {tmps : Array Value} {W : World} {b : Nat} {k : Int} {t : ByteArray} {u : Value} {v : Bool} (h2 : tmps.getD 2 undef = .pointer (some ⟨b, 0, none⟩)) (h3 : tmps.getD 3 undef = .bool v) (x0 : W.cell? ⟨b, 0, none⟩ = some (.int .i64 k)) (x1 : W.cell? ⟨b, 1, none⟩ = some (.string t)) (x2 : W.cell? ⟨b, 2, none⟩ = some u) :
    (results Try.f63 tmps).run Try.prog W = .ok (.tuple #[.agg #[.int .i64 k, .string t, u], .bool v]) W := by
  have h2' : tmps[2]?.getD undef = .pointer (some ⟨b, 0, none⟩) := by simpa using h2
  have h3' : tmps[3]?.getD undef = .bool v := by simpa using h3
  have hu := Try.underlying42; simp [results, Try.results63, h2', h3', go_sem, x0, x1, x2]
set_option maxRecDepth 100000 in
set_option maxHeartbeats 4000000 in
theorem Variable.calls (s : ByteArray) (w : World) (hs : s.size ≤ 1048576) :
    Calls Try.prog 63 #[.string s] w fun e w' => e = .returned (.tuple #[.agg #[.int .i64 (varV s).1.f0, .string (varV s).1.f1, .slice none 0 0], .bool (varV s).2]) ∧ Below w.heap.size w w' := by
  have hsi : (0 : Int) ≤ (s.size : Int) := Int.natCast_nonneg _; have hb0 : Below w.heap.size w (w.alloc (.cells #[.int .i64 0, .string ⟨#[]⟩, .slice none 0 0] 42)) := (Below.refl _ _).alloc (Nat.le_refl _) _; have hn0 := World.alloc_heap_new w (.cells #[.int .i64 0, .string ⟨#[]⟩, .slice none 0 0] 42); obtain ⟨W0, hW0⟩ : ∃ W0, w.alloc (.cells #[.int .i64 0, .string ⟨#[]⟩, .slice none 0 0] 42) = W0 := ⟨_, rfl⟩; have HW0 := Aside0.mk hW0; rw [hW0] at hb0 hn0; have HB0 := Aside0.mk hb0; have HN0 := Aside0.mk hn0; have x0 : W0.cell? ⟨w.heap.size, 0, none⟩ = some (.int .i64 0) := (q4 hn0 0).trans rfl; have x1 : W0.cell? ⟨w.heap.size, 1, none⟩ = some (.string ⟨#[]⟩) := (q4 hn0 1).trans rfl; have x2 : W0.cell? ⟨w.heap.size, 2, none⟩ = some (.slice none 0 0) := (q4 hn0 2).trans rfl; have f0 : W0.frozen? ⟨w.heap.size, 0, none⟩ = false := q11 hn0 0; have f1 : W0.frozen? ⟨w.heap.size, 1, none⟩ = false := q11 hn0 1; have f2 : W0.frozen? ⟨w.heap.size, 2, none⟩ = false := q11 hn0 2; clear hW0 hb0 hn0
  by_cases h2 : 2 ≤ s.size
  · have e1 : decide ((s.size : Int) < 2) = false := decide_eq_false (by omega)
    have hs1 : (1 : Int) < (s.size : Int) := by omega
    have hs2 : (2 : Int) ≤ (s.size : Int) := by omega
    have hs3 : (1 : Int) ≤ (s.size : Int) := by omega
    obtain ⟨b0, hb0⟩ : ∃ b0, b0 = s[0]'(by omega) := ⟨_, rfl⟩; obtain ⟨b1, hb1⟩ : ∃ b1, b1 = s[1]'(by omega) := ⟨_, rfl⟩
    have hbt : ((s[1]'(by omega)).toNat : Int) = (b1.toNat : Int) := by rw [hb1]
    have hv : varV s = if b1 = 46 ∧ 0 ≤ idxB b0 ∧ rightS (varT s b0) = true then (varT s b0, true) else (z42, false) := by unfold varV; rw [dif_pos h2, hb0, hb1]
    have hcon : ∀ w, Calls Try.prog 124 #[.string ⟨#[115, 116, 101]⟩, .string (s.extract 0 1)] w fun e w' => e = .returned (.bool (decide (0 ≤ idxB b0))) ∧ w' = w := by
      intro w; rw [take_one s h2, ← hb0]; exact Try.strings_Contains_one ⟨#[115, 116, 101]⟩ b0 w
    have hix : ∀ w, Calls Try.prog 125 #[.string ⟨#[115, 116, 101]⟩, .string (s.extract 0 1)] w fun e w' => e = .returned (.int .i64 (idxB b0)) ∧ w' = w := by
      intro w; rw [take_one s h2, ← hb0]; exact Try.strings_Index_one ⟨#[115, 116, 101]⟩ b0 w
    obtain ⟨hi2, hi1⟩ := idx_le b0
    obtain ⟨k, hk⟩ := (right_ev (x := varT s b0) (by
      have h1 := size_len (s.extract 2 s.size); rw [extract_list, List.length_take, List.length_drop, ← size_len] at h1; show (s.extract 2 s.size).size ≤ _
      omega)).get
    have HV := Aside0.mk hv; have HCON := Aside0.mk hcon; have HIX := Aside0.mk hix; have HK : Aside0 (term_right.f k (5 + idxB b0) (s.extract 2 s.size) [] = some (rightS (varT s b0))) := ⟨hk⟩
    have hw : IntKind.i64.wrap (5 + idxB b0) = 5 + idxB b0 := by rw [i64_w]; rw [wrap64_id (by omega) (by omega)]
    have HI1 := Aside0.mk hi1; clear hb0 hb1 hv hcon hix hi2 hi1 hk
    by_cases h46 : b1 = 46
    · have e46 : ((b1.toNat : Int) != 46) = false := by rw [h46]; rfl
      rw [h46] at HV; have HV' := HV.out
      by_cases h0 : 0 ≤ idxB b0
      · obtain ⟨r, hr⟩ : ∃ r, r = rightS (varT s b0) := ⟨_, rfl⟩; have hd0 : decide (0 ≤ idxB b0) = true := decide_eq_true h0; have HKR : Aside0 (term_right.f k (5 + idxB b0) (s.extract 2 s.size) [] = some r) := ⟨by rw [hr]; exact HK.out⟩; have HVR : Aside0 (varV s = if r = true then (varT s b0, true) else (z42, false)) := ⟨by rw [HV', ← hr]; simp [h0]⟩; rw [hd0] at HCON; clear HV HV' HK hr h46 hd0
        go_enter Try.func63, Try.ntmps63
        go_wp2_with fail
        rw [HW0.out]
        go_wp2_with fail
        refine (HCON.out _).mono ?_; rintro e w1 ⟨rfl, rfl⟩
        go_wp2_with fail
        go_region_with (first | (go_at_call 125; refine (HIX.out _).mono ?_; rintro e w2 ⟨rfl, rfl⟩))
        all_goals
          have hn4 := World.alloc_heap_new w1 (.cells #[.int .i64 (5 + idxB b0), .string (s.extract 2 s.size), .slice none 0 0] 42); have hb4 : Below w1.heap.size w1 (w1.alloc (.cells #[.int .i64 (5 + idxB b0), .string (s.extract 2 s.size), .slice none 0 0] 42)).drew := below_drew ((Below.refl _ _).alloc (Nat.le_refl _) _); obtain ⟨W4, hW4⟩ : ∃ W4, (w1.alloc (.cells #[.int .i64 (5 + idxB b0), .string (s.extract 2 s.size), .slice none 0 0] 42)).drew = W4 := ⟨_, rfl⟩
          have hn4' : W4.heap[w1.heap.size]? = some (.cells #[.int .i64 (5 + idxB b0), .string (s.extract 2 s.size), .slice none 0 0] 42 (0, 0)) := by rw [← hW4]; exact hn4
          rw [hW4] at hb4 ⊢; have HN4 := Aside0.mk hn4'; have y0 : W4.cell? ⟨w1.heap.size, 0, none⟩ = some (.int .i64 (5 + idxB b0)) := (q4 hn4' 0).trans rfl; have y1 : W4.cell? ⟨w1.heap.size, 1, none⟩ = some (.string (s.extract 2 s.size)) := (q4 hn4' 1).trans rfl; have y2 : W4.cell? ⟨w1.heap.size, 2, none⟩ = some (.slice none 0 0) := (q4 hn4' 2).trans rfl; have HZ4 := Aside0.mk ((hb4.block _ (Array.getElem?_eq_some_iff.1 HN0.out).1).trans HN0.out); have HB4 := Aside0.mk (q12 HB0.out hb4); clear hn4 hb4 hW4 hn4' x0 x1 x2 f0 f1 f2
          go_wp2_with fail
          refine (term_right.calls k (5 + idxB b0) (s.extract 2 s.size) none 0 [] r W4 (Kd.C_nil k42 W4) (Nat.le_refl _) HKR.out).mono ?_; rintro e w5 ⟨rfl, hb5⟩; have hn5 := (hb5.block _ (Array.getElem?_eq_some_iff.1 HN4.out).1).trans HN4.out; have hz5 := (hb5.block _ (Array.getElem?_eq_some_iff.1 HZ4.out).1).trans HZ4.out; have z0 : w5.cell? ⟨w1.heap.size, 0, none⟩ = some (.int .i64 (5 + idxB b0)) := (q4 hn5 0).trans rfl; have z1 : w5.cell? ⟨w1.heap.size, 1, none⟩ = some (.string (s.extract 2 s.size)) := (q4 hn5 1).trans rfl; have z2 : w5.cell? ⟨w1.heap.size, 2, none⟩ = some (.slice none 0 0) := (q4 hn5 2).trans rfl; have x0 : w5.cell? ⟨w.heap.size, 0, none⟩ = some (.int .i64 0) := (q4 hz5 0).trans rfl; have x1 : w5.cell? ⟨w.heap.size, 1, none⟩ = some (.string ⟨#[]⟩) := (q4 hz5 1).trans rfl; have x2 : w5.cell? ⟨w.heap.size, 2, none⟩ = some (.slice none 0 0) := (q4 hz5 2).trans rfl; have f0 : w5.frozen? ⟨w.heap.size, 0, none⟩ = false := q11 hz5 0; have f1 : w5.frozen? ⟨w.heap.size, 1, none⟩ = false := q11 hz5 1; have f2 : w5.frozen? ⟨w.heap.size, 2, none⟩ = false := q11 hz5 2; have HZ5 := Aside0.mk hz5; have HB5 := Aside0.mk (q12 HB4.out hb5); clear hn5 hz5 hb5 y0 y1 y2
          cases r with
          | false =>
            go_wp2_with fail
            (first
              | (refine bodyPost_ret (var_results (b := w.heap.size) rfl rfl x0 x1 x2) rfl ?_; exact ⟨by rw [HVR.out]; rfl, HB5.out⟩)
              | (refine bodyPost_ret (var_results (b := w.heap.size) rfl rfl ((q4 (blk3 HZ5.out) 0).trans rfl) ((q4 (blk3 HZ5.out) 1).trans rfl) ((q4 (blk3 HZ5.out) 2).trans rfl)) rfl ?_; exact ⟨by rw [HVR.out]; rfl, below3 HB5.out⟩))
          | true =>
            go_wp2_with fail
            refine bodyPost_ret (var_results (b := w.heap.size) rfl rfl ((q4 (blk3 HZ5.out) 0).trans rfl) ((q4 (blk3 HZ5.out) 1).trans rfl) ((q4 (blk3 HZ5.out) 2).trans rfl)) rfl ?_; exact ⟨by rw [HVR.out]; rfl, below3 HB5.out⟩
      · have hd0 : decide (0 ≤ idxB b0) = false := decide_eq_false h0; have HVR : Aside0 (varV s = (z42, false)) := ⟨by rw [HV', if_neg (fun h => h0 h.2.1)]⟩; rw [hd0] at HCON; clear HV HV' HK h46 hd0 h0
        go_enter Try.func63, Try.ntmps63
        go_wp2_with fail
        rw [HW0.out]
        go_wp2_with fail
        refine (HCON.out _).mono ?_; rintro e w1 ⟨rfl, rfl⟩
        go_wp2_with fail
        (first
          | (refine bodyPost_ret (var_results (b := w.heap.size) rfl rfl x0 x1 x2) rfl ?_; exact ⟨by rw [HVR.out]; rfl, HB0.out⟩)
          | (refine bodyPost_ret (var_results (b := w.heap.size) rfl rfl ((q4 (blk3 HN0.out) 0).trans rfl) ((q4 (blk3 HN0.out) 1).trans rfl) ((q4 (blk3 HN0.out) 2).trans rfl)) rfl ?_; exact ⟨by rw [HVR.out]; rfl, below3 HB0.out⟩))
    · have e46 : ((b1.toNat : Int) != 46) = true := by
        have : b1.toNat ≠ 46 := fun e => h46 (UInt8.toNat_inj.1 e)
        simp; omega
      have HVR : Aside0 (varV s = (z42, false)) := ⟨by rw [HV.out, if_neg (fun h => h46 h.1)]⟩; clear HV HK h46
      go_enter Try.func63, Try.ntmps63
      go_wp2_with fail
      rw [HW0.out]
      go_wp2_with fail
      refine bodyPost_ret (var_results (b := w.heap.size) rfl rfl x0 x1 x2) rfl ?_; exact ⟨by rw [HVR.out]; rfl, HB0.out⟩
  · have e1 : decide ((s.size : Int) < 2) = true := decide_eq_true (by omega)
    have hv : varV s = (z42, false) := by unfold varV; rw [dif_neg h2]
    have HV := Aside0.mk hv; clear hv h2
    go_enter Try.func63, Try.ntmps63
    go_wp2_with fail
    rw [HW0.out]
    go_wp2_with fail
    refine bodyPost_ret (var_results (b := w.heap.size) rfl rfl x0 x1 x2) rfl ?_; exact ⟨by rw [HV.out]; rfl, HB0.out⟩
end Go.Proofs.Ytjhjhhibbmligaa.TE
end
section
namespace Go.Proofs.Ytjhjhhibbmligaa.TE
open Go.RowKit Go.Shelf Go.Proofs.YtjhjhhibbmligaaW.PrintWords Go.Proofs.YtjhjhhibbmligaaW.PrintLast Go.Proofs.YtjhjhhibbmligaaW.PrintMore Go.Proofs.Ytjhjhhibbmligaa.Evs
set_option linter.unusedVariables false
set_option linter.unusedSimpArgs false
section
attribute [local go_sem] Oper.semAt_some
def callsB (l : List S42) : Bool := (flat l).any (fun x => decide (x.f0 = 8))
theorem callsC_results {tmps : Array Value} {B : Nat} {v : Value} {W : World} (ht : tmps.getD 2 undef = .pointer (some ⟨B, 0, none⟩)) (hc : W.cell? ⟨B, 0, none⟩ = some v) :
    (results Try.f40 tmps).run Try.prog W = .ok v W := by
  have ht' : tmps[2]?.getD undef = .pointer (some ⟨B, 0, none⟩) := by simpa using ht
  simp [results, Try.results40, ht', go_sem, hc]
theorem callsC_leave1 {tmps : Array Value} {B D : Nat} {v : Value} {w W : World} {R : Ending → World → Prop} (ht : tmps.getD 2 undef = .pointer (some ⟨B, 0, none⟩)) (hb : W.heap[B]? = some (.cells #[v] 4 (0, 0))) (hB : Below w.heap.size w W)
    (hD : w.heap.size ≤ D) (hk : W.heap[D]? = some (.deferred (some []))) (hr : ∀ W', Below w.heap.size w W' → R (.returned v) W') :
    LeavesInM Fence.wide 9 Try.prog Try.f40 tmps R [{ target := .collected D, args := #[] }] .returning W := by
  have hne : B ≠ D := by intro e; subst e; rw [hb] at hk; cases hk
  have hb2 : (W.putObj D (.deferred none)).heap[B]? = some (.cells #[v] 4 (0, 0)) := (World.putObj_heap_other hne).trans hb; refine ⟨by simp, .inl ⟨_, _, rfl, run_takeDeferred hk, ?_⟩⟩; exact ⟨v, callsC_results ht ((q4 hb2 0).trans rfl), hr _ (putObj_below hB D _ hD hB.size)⟩
set_option maxRecDepth 100000 in
set_option maxHeartbeats 4000000 in
theorem Calls.calls (A0 : Option Addr) (c0 : Nat) (l0 : List (S42)) (w : World) (hr0 : Kd.C k42 w A0 l0.length l0) (hc0 : l0.length ≤ c0) :
    Calls Try.prog 40 #[.slice A0 l0.length c0] w fun e w' => e = .returned (.bool (callsB l0)) ∧ Below w.heap.size w w' := by
  refine calls_of_wp_marks Try.func40 rfl ?_; simp only [Try.ntmps40, List.size_toArray, List.length_cons, List.length_nil, Nat.reduceAdd, Nat.reduceSub, Array.replicate_succ, Array.replicate_zero, List.push_toArray, List.append_toArray, List.nil_append, List.cons_append]
  go_wp2_with (go_at_call 108; refine (callsIn_wide.1 (all_in 0 A0 l0.length c0 _)).mono ?_; rintro e w' ⟨rfl, rfl⟩)
  obtain ⟨Wl, hWl⟩ : ∃ Wl, (w.alloc (.cells #[.bool false] 4)).alloc (.cells #[.slice A0 l0.length c0] 22) = Wl := ⟨_, rfl⟩
  have hbl : Below w.heap.size w Wl := by rw [← hWl]; exact ((Below.refl _ w).alloc (Nat.le_refl _) _).alloc (by simp) _
  have hszl : Wl.heap.size = w.heap.size + 2 := by rw [← hWl]; simp
  have hr1 : Wl.heap[w.heap.size]? = some (.cells #[.bool false] 4 (0, 0)) := by
    rw [← hWl]; exact (Below.heap_alloc _ _ _ (by simp)).trans (World.alloc_heap_new w _)
  have hl2 : Wl.heap[w.heap.size + 1]? = some (.cells #[.slice A0 l0.length c0] 22 (0, 0)) := by
    rw [← hWl]; have := World.alloc_heap_new (w.alloc (.cells #[.bool false] 4)) (.cells #[.slice A0 l0.length c0] 22); rw [World.size_alloc] at this; exact this
  rw [hWl]; refine range_allH w hbl (w.heap.size + 1) A0 c0 l0 hr0 hc0 ((q4 hl2 0).trans rfl) rfl
    (fun pre W => ((Below w.heap.size w W ∧ W.heap[w.heap.size]? = some (.cells #[.bool false] 4 (0, 0))) ∧ Wl.heap.size ≤ W.heap.size) ∧ ∀ y ∈ pre, y.x.f0 ≠ 8)
    (fun c pre W => (Below w.heap.size w W ∧ W.heap[w.heap.size]? = some (.cells #[.bool true] 4 (0, 0))) ∧ (c = .ret ∧ ∃ y ∈ pre, y.x.f0 = 8))
    (OwnFrom.and (OwnFrom.and (OwnFrom.and (ownFrom_below (Nat.le_refl _) hbl.size) (ownFrom_blk _ _ _ _)) (ownFrom_size _ _)) (ownFrom_pure _ _))
    (fun _ => OwnFrom.and (OwnFrom.and (ownFrom_below (Nat.le_refl _) hbl.size) (ownFrom_blk _ _ _ _)) (ownFrom_pure _ _))
    ⟨⟨⟨hbl, hr1⟩, Nat.le_refl _⟩, by simp⟩
    (fun x a' W => ∃ B, Wl.heap.size ≤ B ∧ W.heap[B]? = some (.cells #[.int .i64 x.x.f0, .string x.x.f1, .slice x.A x.x.f2.length x.c] 42 (0, 0)) ∧
      a' = { tmps := #[.slice A0 l0.length c0, undef, .pointer (some ⟨w.heap.size, 0, none⟩), .pointer (some ⟨B, 0, none⟩), .slice A0 l0.length c0, .func (.func 145) #[] #[.pointer (some ⟨w.heap.size + 1, 0, none⟩)], .agg #[.int .i64 x.x.f0, .string x.x.f1, .slice x.A x.x.f2.length x.c], undef, undef, undef], defers := [] })
    (fun x a' s W W' row hs hg hr => by
      obtain ⟨B, h1, h2, h3⟩ := hs
      exact ⟨B, h1, (grownBy_keeps_cells hg (fun r e => (hr r e).2) h2 rfl).trans h2, h3⟩) ?assign ?body ?done ?stop
  case assign =>
    rintro lp pre x Wx K ⟨⟨⟨hbx, hrx⟩, hszx⟩, hgood⟩ hK; have HG := Aside0.mk hgood; have HK0 := Aside0.mk hK; have HRX := Aside0.mk hrx; clear hgood hK hrx hr1 hl2 hWl; have hu42 := Try.underlying42
    gi_wp2
    have hal : Below Wx.heap.size Wx (Wx.alloc (.cells #[.int .i64 x.x.f0, .string x.x.f1, .slice x.A x.x.f2.length x.c] 42)) := (Below.refl _ Wx).alloc (Nat.le_refl _) _; exact HK0.out _ _ (keepsFrom_below hal) (KeepC.ofBelow hal hbx.size) ⟨⟨⟨hbx.trans (hal.mono hbx.size), q20 HRX.out hal⟩, Nat.le_trans hszx hal.size⟩, HG.out⟩
      ⟨Wx.heap.size, hszx, World.alloc_heap_new Wx _, rfl⟩
  case body =>
    rintro lp pre x a' Wx ⟨⟨⟨hbx, hrx⟩, hszx⟩, hgood⟩ ⟨B, hBx, hxb, rfl⟩ hlen; have HG := Aside0.mk hgood; have hcr : Wx.cell? ⟨w.heap.size, 0, none⟩ = some (.bool false) := (q4 hrx 0).trans rfl; have hfr := q11 hrx 0; have hx0 : Wx.cell? ⟨B, 0, none⟩ = some (.int .i64 x.x.f0) := (q4 hxb 0).trans rfl; have HRX := Aside0.mk hrx; have hu42 := Try.underlying42; clear hgood hrx hxb hr1 hl2 hWl
    by_cases h8 : x.x.f0 = 8
    · have e8 : (x.x.f0 == 8) = true := by simp; exact h8
      have H8 := Aside0.mk h8; clear h8
      gi_wp2
      refine ⟨(KeepsOthers.setCell _ _ _).from _, ⟨hbx.setCell (p := ⟨w.heap.size, 0, none⟩) (by simp) _, setCell_blk HRX.out⟩, rfl, x, by simp, H8.out⟩
    · have e8 : (x.x.f0 == 8) = false := by simp; exact h8
      have H8 := Aside0.mk h8; clear h8
      gi_wp2
      refine ⟨keepsFrom_below (Below.refl _ _), KeepC.refl _ _ _, ⟨⟨hbx, HRX.out⟩, hszx⟩, ?_⟩; intro y hy
      rcases List.mem_append.1 hy with hy | hy
      · exact HG.out y hy
      · obtain rfl := List.mem_singleton.1 hy; exact H8.out
  case done =>
    rintro D ys W hD hys ⟨⟨⟨hb, hr⟩, hsz⟩, hgood⟩ hkD
    have hres : callsB l0 = false := by
      unfold callsB; rw [List.any_eq_false]; intro t ht; rw [← hys] at ht; obtain ⟨y, hy, rfl⟩ := List.mem_map.1 ht
      simpa using hgood y hy
    have HRES := Aside0.mk hres; have hcr : W.cell? ⟨w.heap.size, 0, none⟩ = some (.bool false) := (q4 hr 0).trans rfl; have hfr := q11 hr 0; have HR := Aside0.mk hr; have HKD := Aside0.mk hkD; clear hr hkD hr1 hl2 hWl hys hgood hres
    go_wp2
    (first
      | exact callsC_leave1 rfl HR.out hb (by omega) HKD.out (fun W' hW' => ⟨by rw [HRES.out], hW'⟩)
      | exact callsC_leave1 rfl (setCell_blk HR.out) (hb.setCell (p := ⟨w.heap.size, 0, none⟩) (by simp) _) (by omega) ((Below.heap_setCell W ⟨w.heap.size, 0, none⟩ _ D (by simp; omega)).trans HKD.out) (fun W' hW' => ⟨by rw [HRES.out], hW'⟩))
  case stop =>
    rintro D c pre W hD hpre ⟨⟨hb, hr⟩, rfl, y, hy, hy8⟩ hkD
    have hres : callsB l0 = true := by
      unfold callsB; rw [List.any_eq_true]; exact ⟨y.x, hpre.subset (List.mem_map_of_mem hy), by simpa using hy8⟩
    have HRES := Aside0.mk hres; clear hr1 hl2 hWl hpre hres
    go_wp2
    exact callsC_leave1 rfl hr hb (by omega) hkD (fun W' hW' => ⟨by rw [HRES.out], hW'⟩)
end
end Go.Proofs.Ytjhjhhibbmligaa.TE
end
section
namespace Go.Proofs.Ytjhjhhibbmligaa.TE
open Go.RowKit Go.Shelf Go.Proofs.YtjhjhhibbmligaaW.PrintWords Go.Proofs.YtjhjhhibbmligaaW.PrintLast Go.Proofs.YtjhjhhibbmligaaW.PrintMore Go.Proofs.Ytjhjhhibbmligaa.Evs
set_option linter.unusedVariables false
set_option linter.unusedSimpArgs false
section
attribute [local go_sem] Oper.semAt_some
structure KeepD (n₀ m : Nat) (W W' : World) : Prop where
  below : Below n₀ W W'
  cells : ∀ k cs t fr, m ≤ k → t ≠ 9 → W.heap[k]? = some (.cells cs t fr) → W'.heap[k]? = some (.cells cs t fr)
theorem KeepD.trans {n₀ m : Nat} {A B C : World} (h : KeepD n₀ m A B) (k : KeepD n₀ m B C) : KeepD n₀ m A C :=
  ⟨h.below.trans k.below, fun i cs t fr hi ht hc => k.cells i cs t fr hi ht (h.cells i cs t fr hi ht hc)⟩
theorem KeepD.refl (n₀ m : Nat) (W : World) : KeepD n₀ m W W := ⟨Below.refl _ _, fun _ _ _ _ _ _ h => h⟩
theorem KeepD.ofBelow {n₀ m : Nat} {W W' : World} (h : Below W.heap.size W W') (hn : n₀ ≤ W.heap.size) : KeepD n₀ m W W' :=
  ⟨h.mono hn, fun k cs t fr _ _ hc => (h.block k (Array.getElem?_eq_some_iff.1 hc).1).trans hc⟩
theorem KeepD.put {n₀ m : Nat} (W : World) (l : Nat) (o o' : Obj) (hl : n₀ ≤ l) (h : W.heap[l]? = some o) (hc : o.isCells = false) : KeepD n₀ m W (W.putObj l o') :=
  ⟨(Below.refl n₀ W).grown (grownBy_putObj' W l o') (by have := (Array.getElem?_eq_some_iff.1 h).1; omega) (fun k e => by cases e; omega), fun k cs t fr _ _ hk => by
    by_cases e : k = l
    · subst e; rw [h] at hk; cases hk; simp [Obj.isCells] at hc
    · exact (World.putObj_heap_other e).trans hk⟩
set_option maxRecDepth 100000 in
set_option maxHeartbeats 4000000 in
theorem walk_allD (w0 : World) (L : List S42) (lp m By Bw N : Nat) (J Jx : List (Yd w0 L) → World → Prop) (n : Nat) (B : Nat) (hJ : AbidesFrom B J)
    (hBy : m ≤ By) (hBw : m ≤ Bw)
    (hY : ∀ pre y W, J pre W → pre.length < N → YieldAt Fence.wide n Try.prog lp y.enc W fun e W' =>
      (e = .returned (.bool true) ∧ J (pre ++ [y]) W' ∧ KeepD w0.heap.size m W W') ∨ (e = .returned (.bool false) ∧ Jx (pre ++ [y]) W')) :
    ∀ (k : Nat) (A : Option Addr) (c : Nat) (l : List S42) (pre : List (Yd w0 L)) (W : World), SizeOf.sizeOf l ≤ k → (∀ t, t ∈ flat l → t ∈ L) → Kd.C k42 w0 A l.length l → l.length ≤ c → Below w0.heap.size w0 W → m ≤ W.heap.size →
      W.heap[By]? = some (.cells #[.func (.yield lp) #[] #[]] 78 (0, 0)) → W.heap[Bw]? = some (.cells #[.func (.func 146) #[] #[.pointer (some ⟨By, 0, none⟩), .pointer (some ⟨Bw, 0, none⟩)]] 64 (0, 0)) →
      J pre W → pre.length + (flat l).length ≤ N →
      CallsIn Fence.wide n Try.prog 146 #[.slice A l.length c, .pointer (some ⟨By, 0, none⟩), .pointer (some ⟨Bw, 0, none⟩)] W fun e W' =>
        (e = .returned (.bool true) ∧ ∃ ys : List (Yd w0 L), ys.map (·.x) = flat l ∧ J (pre ++ ys) W' ∧ KeepD w0.heap.size m W W') ∨
        (e = .returned (.bool false) ∧ ∃ ys : List (Yd w0 L), ys.map (·.x) <+: flat l ∧ Jx (pre ++ ys) W') := by
  intro k
  induction k with
  | zero => intro A c l pre W hk; cases l <;> simp at hk
  | succ k ih =>
    intro A c l pre W hk hL hC hc hB hm hy0 hw0 hj hN; have hu42 := Try.underlying42; have hmax := Kd.C_max hC; refine callsIn_of_wp Try.func146 rfl trivial ?_ rfl; simp only [Try.ntmps146, List.size_toArray, List.length_cons, List.length_nil, Nat.reduceAdd, Nat.reduceSub, Array.replicate_succ, Array.replicate_zero, List.push_toArray, List.append_toArray, List.nil_append, List.cons_append]
    gi_wp2
    gi_loopw [9] (fun i wr => ∃ (q : Nat) (ys : List (Yd w0 L)), i = .int .i64 q ∧ q ≤ l.length ∧ ys.map (·.x) = flat (l.take q) ∧ J (pre ++ ys) wr ∧ KeepD w0.heap.size m W wr) (fun i wr => l.length - (intOf i).toNat)
    case atStart => exact ⟨0, [], rfl, Nat.zero_le _, by simp [flat_nil], by simpa using hj, KeepD.refl _ _ _⟩
    case round =>
      obtain ⟨q, ys, rfl, hq, hys, hjs, hK⟩ := hrel
      have hlen : ys.length = (flat (l.take q)).length := by rw [← hys, List.length_map]
      have HY := Aside0.mk hys; have HJs := Aside0.mk hjs; have HKs := Aside0.mk hK; have HL := Aside0.mk hlen; have hBr : Below w0.heap.size w0 wr := hB.trans hK.below; have hszr : W.heap.size ≤ wr.heap.size := hK.below.size; clear hys hjs hlen
      by_cases hlt : q < l.length
      · obtain ⟨ad, A2, c2, rfl, hx0, hx1, hx2, hl2, hr2⟩ := at_T42 hC (q : Int) (by omega) (by omega)
        have hrd : rd_T42 l (q : Int) = l[q] := by simp [rd_T42, List.getD_eq_getElem?_getD, List.getElem?_eq_getElem hlt]
        rw [hrd] at hx0 hx1 hx2 hl2 hr2; rw [Int.toNat_natCast] at hx0 hx1 hx2; obtain ⟨x, hxx⟩ : ∃ x, l[q] = x := ⟨_, rfl⟩
        have hsz : SizeOf.sizeOf x.f2 ≤ k := by have := sizeOf_kids l q hlt; rw [hxx] at this; omega
        have hft := flat_take_succ l q hlt; have hfl := flat_take_le l (q + 1); rw [hxx] at hx0 hx1 hx2 hl2 hr2 hft
        have hN2 : (flat (l.take q)).length + (1 + (flat x.f2).length) ≤ (flat l).length := by rw [hft] at hfl; simp at hfl; omega
        have hxf : x ∈ flat l := (flat_take_prefix l (q + 1)).subset (by rw [hft]; simp)
        have hkf : ∀ t, t ∈ flat x.f2 → t ∈ L := fun t ht => hL t ((flat_take_prefix l (q + 1)).subset (by rw [hft]; simp [ht]))
        obtain ⟨y, hy⟩ : ∃ y : Yd w0 L, y = ⟨x, hL x hxf, A2, c2, hl2, hr2⟩ := ⟨_, rfl⟩
        have hyx : y.x = x := by rw [hy]
        replace hx0 := (hBr.cell (World.block_lt_of_cell? w0 _ hx0)).trans hx0; replace hx1 := (hBr.cell (World.block_lt_of_cell? w0 _ hx1)).trans hx1; replace hx2 := (hBr.cell (World.block_lt_of_cell? w0 _ hx2)).trans hx2; obtain ⟨W1, hW1⟩ : ∃ W1, wr.alloc (.cells #[.int .i64 x.f0, .string x.f1, .slice A2 x.f2.length c2] 42) = W1 := ⟨_, rfl⟩
        have hb1 : Below wr.heap.size wr W1 := by rw [← hW1]; exact (Below.refl _ wr).alloc (Nat.le_refl _) _
        have hk1 : KeepD w0.heap.size m wr W1 := KeepD.ofBelow hb1 (Nat.le_trans hB.size hszr)
        have ht1 : W1.heap[wr.heap.size]? = some (.cells #[.int .i64 x.f0, .string x.f1, .slice A2 x.f2.length c2] 42 (0, 0)) := by rw [← hW1]; exact World.alloc_heap_new wr _
        have hj1 : J (pre ++ ys) W1 := hJ _ wr W1 none HJs.out (by rw [← hW1]; exact World.grownBy_alloc wr _ none) (fun r e => by cases e); obtain ⟨fn, tmps, assign, body, hyr, hR⟩ := hY (pre ++ ys) y W1 hj1 (by have := HL.out; simp; omega)
        have henc : y.enc = #[.agg #[.int .i64 x.f0, .string x.f1, .slice A2 x.f2.length c2]] := by rw [hy]; rfl
        rw [henc] at hyr; have hby1 := hk1.cells By _ _ _ hBy (by decide) (hK.cells By _ _ _ hBy (by decide) hy0); have hcy : W1.cell? ⟨By, 0, none⟩ = some (.func (.yield lp) #[] #[]) := (q4 hby1 0).trans rfl
        have hdd : ∀ k : Nat, (Fence.wide.depth.isSome = true → 1 ≤ k) := fun k h => by simp [Fence.wide] at h
        have hR2 := hR.mono (R' := fun e W2 =>
            (e = .returned (.bool true) ∧ W2.cell? ⟨Bw, 0, none⟩ = some (.func (.func 146) #[] #[.pointer (some ⟨By, 0, none⟩), .pointer (some ⟨Bw, 0, none⟩)]) ∧
              W2.cell? ⟨wr.heap.size, 2, none⟩ = some (.slice A2 x.f2.length c2) ∧
              CallsIn Fence.wide n Try.prog 146 #[.slice A2 x.f2.length c2, .pointer (some ⟨By, 0, none⟩), .pointer (some ⟨Bw, 0, none⟩)] W2 fun e W3 =>
                (e = .returned (.bool true) ∧ ∃ zs : List (Yd w0 L), zs.map (·.x) = flat x.f2 ∧ J (pre ++ (ys ++ y :: zs)) W3 ∧ KeepD w0.heap.size m W W3) ∨
                (e = .returned (.bool false) ∧ ∃ zs : List (Yd w0 L), zs.map (·.x) <+: flat x.f2 ∧ Jx (pre ++ (ys ++ y :: zs)) W3)) ∨
            (e = .returned (.bool false) ∧ Jx (pre ++ (ys ++ [y])) W2)) (fun e W2 h => by
          rcases h with ⟨he, hj2, hk2⟩ | ⟨he, hj2⟩
          · refine .inl ⟨he, ?_, ?_, ?_⟩
            · exact (q4 (hk2.cells Bw _ _ _ hBw (by decide) (hk1.cells Bw _ _ _ hBw (by decide) (hK.cells Bw _ _ _ hBw (by decide) hw0))) 0).trans rfl
            · exact (q4 (hk2.cells wr.heap.size _ _ _ (Nat.le_trans hm hszr) (by decide) ht1) 2).trans rfl
            · have hkk := (hK.trans hk1).trans hk2; refine (ih A2 c2 x.f2 (pre ++ ys ++ [y]) W2 hsz hkf hr2 hl2 (hB.trans hkk.below) (Nat.le_trans hm hkk.below.size) (hkk.cells By _ _ _ hBy (by decide) hy0) (hkk.cells Bw _ _ _ hBw (by decide) hw0) hj2 (by have := HL.out; simp; omega)).mono ?_; rintro e3 W3 (⟨he3, zs, hz, hj3, hk3⟩ | ⟨he3, zs, hz, hj3⟩)
              · exact .inl ⟨he3, zs, hz, by simpa [List.append_assoc] using hj3, hkk.trans hk3⟩
              · exact .inr ⟨he3, zs, hz, by simpa [List.append_assoc] using hj3⟩
          · exact .inr ⟨he, by simpa [List.append_assoc] using hj2⟩)
        have ht10 : W1.cell? ⟨wr.heap.size, 0, none⟩ = some (.int .i64 x.f0) := (q4 ht1 0).trans rfl; have ht11 : W1.cell? ⟨wr.heap.size, 1, none⟩ = some (.string x.f1) := (q4 ht1 1).trans rfl; have ht12 : W1.cell? ⟨wr.heap.size, 2, none⟩ = some (.slice A2 x.f2.length c2) := (q4 ht1 2).trans rfl; have HX := Aside0.mk hxx; have HFT := Aside0.mk hft; have HT1 := Aside0.mk ht1; have HYX := Aside0.mk hyx; clear hxf hkf hL hxx hft ht1 hyx hrd hy henc hR hY ih hby1 hy0 hw0 hsz hfl hK hk1 HJs hj hj1
        have hlb : decide ((q : Int) < (l.length : Int)) = true := by simp; omega
        gi_wp2_with ((try refine ⟨hdd _, ?_⟩); refine (round_any hR2).mono ?_; clear hR2; rintro e W2 (⟨rfl, hcw2, hck2, hC2⟩ | ⟨rfl, hJ2⟩))
        · refine ⟨trivial, hdd _, (calls_any hC2).mono ?_⟩; clear hC2; rintro e W3 (⟨rfl, zs, hz, hJ3, hK3⟩ | ⟨rfl, zs, hz, hJ3⟩)
          · have HZ := Aside0.mk hz; clear hz
            gi_wp2
            go_roundw
            case rel => exact ⟨q + 1, ys ++ y :: zs, by go_num, by omega, by rw [HFT.out, List.map_append, List.map_cons, HYX.out, HY.out, HZ.out], hJ3, hK3⟩
            case measure => simp [intOf]; omega
          · have HZ := Aside0.mk hz; clear hz
            gi_wp2
            go_ret; refine .inr ⟨rfl, ys ++ y :: zs, ?_, hJ3⟩; rw [List.map_append, List.map_cons, HYX.out, HY.out]; refine List.IsPrefix.trans ?_ (flat_take_prefix l (q + 1)); rw [HFT.out]
            exact List.prefix_append_right_inj _ |>.2 ((List.prefix_cons_inj _).2 HZ.out)
        · refine ⟨fun _ h => (by cases h), ?_⟩
          gi_wp2
          go_ret; refine .inr ⟨rfl, ys ++ [y], ?_, hJ2⟩; rw [List.map_append, List.map_cons, HYX.out, HY.out]; refine List.IsPrefix.trans ?_ (flat_take_prefix l (q + 1)); rw [HFT.out]
          exact List.prefix_append_right_inj _ |>.2 ((List.prefix_cons_inj _).2 (List.nil_prefix))
      · obtain rfl : q = l.length := by omega
        have hlb : decide ((l.length : Int) < (l.length : Int)) = false := by simp
        gi_wp2
        go_ret; exact .inl ⟨rfl, ys, by rw [HY.out, List.take_length], HJs.out, HKs.out⟩
set_option maxHeartbeats 2000000 in
theorem all_stopsD (n : Nat) (w0 w : World) (hB : Below w0.heap.size w0 w) (Bl : Nat) (A : Option Addr) (c : Nat) (l : List S42) (hC : Kd.C k42 w0 A l.length l) (hc : l.length ≤ c)
    (hl : w.cell? ⟨Bl, 0, none⟩ = some (.slice A l.length c)) :
    SeqStopsK Fence.wide n Try.prog 145 #[.pointer (some ⟨Bl, 0, none⟩)] (Yd.enc (w0 := w0) (L := flat l)) (KeepD w0.heap.size w.heap.size) (fun ys => ys.map (·.x) = flat l) (fun pre => pre.map (·.x) <+: flat l) (flat l).length w := by
  intro lp J Jx W hW hJ hJx hY h0; have hlt : Bl < w.heap.size := World.block_lt_of_cell? w ⟨Bl, 0, none⟩ hl; have hlW : W.cell? ⟨Bl, 0, none⟩ = some (.slice A l.length c) := (hW.cell (p := ⟨Bl, 0, none⟩) hlt).trans hl; obtain ⟨W2, hW2⟩ : ∃ W2, (W.alloc (.cells #[.func (.yield lp) #[] #[]] 78)).alloc (.cells #[.func (.func 146) #[] #[.pointer (some ⟨W.heap.size, 0, none⟩), .pointer (some ⟨W.heap.size + 1, 0, none⟩)]] 64) = W2 := ⟨_, rfl⟩
  have hb2 : Below W.heap.size W W2 := by rw [← hW2]; exact ((Below.refl _ W).alloc (Nat.le_refl _) _).alloc (by simp) _
  have hy2 : W2.heap[W.heap.size]? = some (.cells #[.func (.yield lp) #[] #[]] 78 (0, 0)) := by
    rw [← hW2]; exact (Below.heap_alloc _ _ _ (by simp)).trans (World.alloc_heap_new W _)
  have hw2 : W2.heap[W.heap.size + 1]? = some (.cells #[.func (.func 146) #[] #[.pointer (some ⟨W.heap.size, 0, none⟩), .pointer (some ⟨W.heap.size + 1, 0, none⟩)]] 64 (0, 0)) := by
    rw [← hW2]; have := World.alloc_heap_new (W.alloc (.cells #[.func (.yield lp) #[] #[]] 78)) (.cells #[.func (.func 146) #[] #[.pointer (some ⟨W.heap.size, 0, none⟩), .pointer (some ⟨W.heap.size + 1, 0, none⟩)]] 64)
    rwa [World.size_alloc] at this
  have hj2 : J [] W2 := hJ _ W W2 none h0 (by rw [← hW2]; exact (World.grownBy_alloc W _ none).trans (World.grownBy_alloc _ _ none)) (fun r e => by cases e); have hcall := walk_allD w0 (flat l) lp w.heap.size W.heap.size (W.heap.size + 1) (flat l).length J Jx (n - 1) W.heap.size hJ hW.size (Nat.le_succ_of_le hW.size)
    (fun pre y W' hj hn => yield_any (hY pre y W' hj hn)) (SizeOf.sizeOf l) A c l [] W2 (Nat.le_refl _) (fun t ht => ht) hC hc (hB.trans ((hW.mono hB.size).trans (hb2.mono (Nat.le_trans hB.size hW.size)))) (Nat.le_trans hW.size hb2.size) hy2 hw2 hj2 (by simp)
  have hcy : W2.cell? ⟨W.heap.size, 0, none⟩ = some (.func (.yield lp) #[] #[]) := (q4 hy2 0).trans rfl; have hcw : W2.cell? ⟨W.heap.size + 1, 0, none⟩ = some (.func (.func 146) #[] #[.pointer (some ⟨W.heap.size, 0, none⟩), .pointer (some ⟨W.heap.size + 1, 0, none⟩)]) := (q4 hw2 0).trans rfl; have hcl : W2.cell? ⟨Bl, 0, none⟩ = some (.slice A l.length c) := (hb2.cell (p := ⟨Bl, 0, none⟩) (Nat.lt_of_lt_of_le hlt hW.size)).trans hlW; have HY2 := Aside0.mk hy2; have HW2 := Aside0.mk hw2; clear hy2 hw2 hY h0 hJ hJx hj2
  have hdd : ∀ k : Nat, (Fence.wide.depth.isSome = true → 1 ≤ k) := fun k h => by simp [Fence.wide] at h
  refine callsIn_of_wp Try.func145 rfl trivial ?_ rfl; simp only [Try.ntmps145, List.size_toArray, List.length_cons, List.length_nil, Nat.reduceAdd, Nat.reduceSub, Array.replicate_succ, Array.replicate_zero, List.push_toArray, List.append_toArray, List.nil_append, List.cons_append]
  gi_wp2_with (fail)
  refine ⟨trivial, hdd _, hcall.mono ?_⟩; clear hcall; rintro e W3 (⟨rfl, ys, hys, hJ3, _⟩ | ⟨rfl, ys, hys, hJ3⟩)
  · have HZ := Aside0.mk hys; clear hys
    gi_wp2
    go_end0
    exact ⟨⟨_, rfl⟩, .inl ⟨ys, HZ.out, by simpa using hJ3⟩⟩
  · have HZ := Aside0.mk hys; clear hys
    gi_wp2
    go_end0
    exact ⟨⟨_, rfl⟩, .inr ⟨ys, HZ.out, by simpa using hJ3⟩⟩
theorem range_allHD {p : Tmp} {g : Operand} {assign body : Code} {Q : Exit → Act → World → Prop} {a : Act} {w : World}
    (w0 : World) (hB : Below w0.heap.size w0 w) (Bl : Nat) (A : Option Addr) (c : Nat) (l : List S42) (hC : Kd.C k42 w0 A l.length l) (hc : l.length ≤ c)
    (hl : w.cell? ⟨Bl, 0, none⟩ = some (.slice A l.length c)) (hg : a.eval g = .func (.func 145) #[] #[.pointer (some ⟨Bl, 0, none⟩)])
    (I : List (Yd w0 (flat l)) → World → Prop) (Ix : Code → List (Yd w0 (flat l)) → World → Prop) (hI : OwnFrom w.heap.size I) (hIx : ∀ c, OwnFrom w.heap.size (Ix c)) (h0 : I [] w)
    (Ax : Yd w0 (flat l) → Act → World → Prop) (hAx : ∀ x a', OwnFrom w.heap.size (fun (_ : Unit) W => Ax x a' W))
    (hassign : ∀ (lp : Nat) (pre : List (Yd w0 (flat l))) (x : Yd w0 (flat l)) (W : World) (K : Act → World → Prop), I pre W →
      (∀ a' W', KeepsFrom w.heap.size W W' → KeepD w0.heap.size w.heap.size W W' → I pre W' → Ax x a' W' → K a' W') →
      assign.wpIn (Fence.wide.inRound lp) 7 Try.prog (Exit.then K (fun _ _ _ => False)) { tmps := a.tmps.setIfInBounds p (.agg #[.int .i64 x.x.f0, .string x.x.f1, .slice x.A x.x.f2.length x.c]), defers := [] } W)
    (hbody : ∀ (lp : Nat) (pre : List (Yd w0 (flat l))) (x : Yd w0 (flat l)) (a' : Act) (W : World), I pre W → Ax x a' W → pre.length < (flat l).length →
      body.wpIn (Fence.wide.inRound lp) 7 Try.prog (ownPostG w.heap.size (KeepD w0.heap.size w.heap.size) I Ix (pre ++ [x]) W) a' W)
    (hdone : ∀ (D : Nat) (ys : List (Yd w0 (flat l))) (W : World), w.heap.size ≤ D → ys.map (·.x) = flat l → I ys W → W.heap[D]? = some (.deferred (some [])) →
      Q .normal { a with defers := { target := .collected D, args := #[] } :: a.defers } W)
    (hstop : ∀ (D : Nat) (c : Code) (pre : List (Yd w0 (flat l))) (W : World), w.heap.size ≤ D → pre.map (·.x) <+: flat l → Ix c pre W → W.heap[D]? = some (.deferred (some [])) →
      c.wp Try.prog Q { a with defers := { target := .collected D, args := #[] } :: a.defers } W) :
    (Code.rangeFunc g #[p] assign body).wp Try.prog Q a w :=
  wpIn_wide.1 (wpIn_rangeFunc_ownH (n := 9) rfl (by omega) hg trivial enters145 (all_stopsD 8 w0 w hB Bl A c l hC hc hl) KeepD.trans
    (fun W k o o' hk ho hc hw => KeepD.put W k o o' (Nat.le_trans hB.size hk) ho hc) (Below.refl _ _) (fun _ => rfl) I Ix hI hIx h0 Ax hAx
    (fun lp pre x W K hi hK => by have := hassign lp pre x W K hi hK; simpa [Yd.enc] using this) (fun lp pre x a' W _ _ hi hx hl => hbody lp pre x a' W hi hx hl) hdone (fun D c pre W hD hp hx hk => wpIn_wide.2 (hstop D c pre W hD hp hx hk)))
theorem KeepD.setCell {n₀ m : Nat} (W : World) (b i : Nat) (v : Value) (h1 : n₀ ≤ b) (h2 : b < m) : KeepD n₀ m W (W.setCell ⟨b, i, none⟩ v) :=
  ⟨(Below.refl n₀ W).setCell (p := ⟨b, i, none⟩) h1 v, fun k cs t fr hk _ hc => (Below.heap_setCell W ⟨b, i, none⟩ v k (by simp; omega)).trans hc⟩
theorem KeepD.grown {n₀ m : Nat} {W W' : World} {row : Option Nat} (h : W.grownBy W' row) (hn : n₀ ≤ W.heap.size) (h1 : ∀ b, row = some b → n₀ ≤ b) (h2 : ∀ b, row = some b → ∃ cs fr, W.heap[b]? = some (.cells cs 9 fr)) : KeepD n₀ m W W' :=
  ⟨(Below.refl n₀ W).grown h hn h1, fun k cs t fr hk ht hc => by
    refine (h.block k (Array.getElem?_eq_some_iff.1 hc).1 (fun e => ?_)).trans hc; obtain ⟨cs', fr', hh⟩ := h2 k e.symm; rw [hc] at hh
    injection hh with hh
    injection hh with _ h3 _
    exact ht h3⟩
end
end Go.Proofs.Ytjhjhhibbmligaa.TE
end
