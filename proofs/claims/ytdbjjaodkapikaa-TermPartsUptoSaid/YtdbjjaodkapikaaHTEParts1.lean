/- term.String. -/
import Derived.Test.YtdbjjaodkapikaaHTEBa
import Derived.Test.YtdbjjaodkapikaaHTEPlain
import Derived.Test.YtdbjjaodkapikaaHTEWrites
import Derived.Test.YtdbjjaodkapikaaHShelf
namespace Go.Proofs.Ytdbjjaodkapikaa.TE
open Go.RowKit Go.Shelf Go.Proofs.YtdbjjaodkapikaaW.PrintWords Go.Proofs.YtdbjjaodkapikaaW.PrintLast Go.Proofs.YtdbjjaodkapikaaW.PrintMore Go.Proofs.Ytdbjjaodkapikaa.Evs
set_option linter.unusedVariables false
set_option linter.unusedSimpArgs false
def chrOk (x : Tm) : Bool := decide (x.f0 = 1) && rightS x
def strL (l : List Tm) : List UInt8 := l.flatMap (fun x => x.f1.data.toList)
def strR (l : List Tm) : ByteArray × Bool := if l.all chrOk = true then (⟨(strL l).toArray⟩, true) else (⟨#[]⟩, false)
theorem strL_len : ∀ l : List Tm, (strL l).length ≤ bk42s l
  | [] => by simp [strL]
  | x :: r => by
    have := strL_len r
    have h1 : bk42s (x :: r) = bk42 x + bk42s r := by simp [bk42s]
    have h2 := bk42_eq x; have h3 := size_len x.f1; have h4 : strL (x :: r) = x.f1.data.toList ++ strL r := rfl; rw [h4, List.length_append, h1, h2]
    omega
theorem take_succ_at {l : List Tm} {q : Nat} {x : Tm} (h : l[q]? = some x) : l.take (q + 1) = l.take q ++ [x] := by rw [List.take_add_one, h]; rfl
theorem strL_take {l : List Tm} {q : Nat} {x : Tm} (h : l[q]? = some x) : strL (l.take (q + 1)) = strL (l.take q) ++ x.f1.data.toList := by
  rw [take_succ_at h]; simp [strL]
theorem strL_take_len {l : List Tm} (q : Nat) : (strL (l.take q)).length ≤ (strL l).length := by
  have h : strL l = strL (l.take q) ++ strL (l.drop q) := by
    simp only [strL, ← List.flatMap_append, List.take_append_drop]
  rw [h, List.length_append]; omega
theorem strR_no {l : List Tm} {q : Nat} {x : Tm} (h : l[q]? = some x) (hx : chrOk x = false) : strR l = (⟨#[]⟩, false) := by
  unfold strR; rw [if_neg]; intro ha; rw [List.all_eq_true] at ha; rw [ha x (List.mem_of_getElem? h)] at hx; cases hx
set_option maxRecDepth 100000 in
set_option maxHeartbeats 4000000 in
theorem String.calls (A : Option Addr) (c : Nat) (l : List Tm) (w : World) (hC : Kd.C k42 w A l.length l) (hc : l.length ≤ c) (hb : bk42s l ≤ 1048576) :
    Calls Try.prog 42 #[.slice A l.length c] w fun e w' => e = .returned (.tuple #[.string (strR l).1, .bool (strR l).2]) ∧ Below w.heap.size w w' := by
  have hB0 : Below w.heap.size w (w.alloc (.cells #[.pointer none, .slice none 0 0] 64)) := (Below.refl _ _).alloc (Nat.le_refl _) _; have hIs : IsB w.heap.size w.heap.size [] (w.alloc (.cells #[.pointer none, .slice none 0 0] 64)) := Lib.fresh_isBuilder _ _ w; obtain ⟨W0, hW0⟩ : ∃ W0, w.alloc (.cells #[.pointer none, .slice none 0 0] 64) = W0 := ⟨_, rfl⟩; have HW0 := Aside0.mk hW0; rw [hW0] at hB0 hIs; have hlen := strL_len l; have HSL : Aside0 ((strL l).length ≤ 1048576) := ⟨by omega⟩; have HLEN : Aside0 (l.length ≤ 1048576) := ⟨by have := bk_len l; omega⟩; have HBK := Aside0.mk hb; have HC := Aside0.mk hC; have HB0 := Aside0.mk hB0; have HIS := Aside0.mk hIs; clear hB0 hIs hW0 hC hb hlen
  go_enter Try.func42, Try.ntmps42
  go_wp2_with fail
  rw [HW0.out]
  go_loopw [10] (fun i wr => ∃ q : Nat, i = .int .i64 q ∧ q ≤ l.length ∧ Aside0 (IsB w.heap.size w.heap.size (Lib.byteCells (strL (l.take q))) wr) ∧ Aside0 (Below w.heap.size w wr) ∧ Aside0 ((l.take q).all chrOk = true)) (fun i wr => l.length - (intOf i).toNat)
  case atStart => exact ⟨0, rfl, Nat.zero_le _, ⟨by simpa [Lib.byteCells, strL] using HIS.out⟩, HB0, ⟨rfl⟩⟩
  case round =>
    obtain ⟨q, rfl, hq, HI, HBr, HP⟩ := hrel; have hq0 : (0 : Int) ≤ (q : Int) := Int.natCast_nonneg _
    by_cases hlt : q < l.length
    · obtain ⟨x, hx⟩ : ∃ x, l[q]? = some x := ⟨_, List.getElem?_eq_getElem hlt⟩; obtain ⟨ad, A2, c2, rfl, hx0, hx1, hx2, hl2, hr2⟩ := at_T42 HC.out (q : Int) (by omega) (by omega)
      have hrd : rd_T42 l (q : Int) = x := by simp [rd_T42, List.getD_eq_getElem?_getD, hx]
      rw [hrd] at hx0 hx1 hx2 hl2 hr2; rw [Int.toNat_natCast] at hx0 hx1 hx2; replace hx0 := (HBr.out.cell (World.block_lt_of_cell? w _ hx0)).trans hx0; replace hx1 := (HBr.out.cell (World.block_lt_of_cell? w _ hx1)).trans hx1; replace hx2 := (HBr.out.cell (World.block_lt_of_cell? w _ hx2)).trans hx2
      have hlb : decide ((q : Int) < (l.length : Int)) = true := by simp; omega
      have hqi : (q : Int) < (l.length : Int) := by omega
      have hw : IntKind.i64.wrap ((q : Int) + 1) = (q : Int) + 1 := by have := HLEN.out; rw [i64_w]; rw [wrap64_id (by omega) (by omega)]
      have hmem : x ∈ l := List.mem_of_getElem? hx; have hbm := bk_mem hmem; obtain ⟨k, hk⟩ := (right_ev (x := x) (by have := HBK.out; omega)).get; have HK := Aside0.mk hk; have HX := Aside0.mk hx; have HR2 := Aside0.mk (Kd.C_below hr2 HBr.out); have HL2 := Aside0.mk hl2; have hna := World.alloc_heap_new wr (.cells #[.int .i64 x.f0, .string x.f1, .slice A2 x.f2.length c2] 42); have hba : Below wr.heap.size wr (wr.alloc (.cells #[.int .i64 x.f0, .string x.f1, .slice A2 x.f2.length c2] 42)) := (Below.refl _ wr).alloc (Nat.le_refl _) _; have HIa := Aside0.mk (IsB.alloc HI.out (.cells #[.int .i64 x.f0, .string x.f1, .slice A2 x.f2.length c2] 42)); obtain ⟨Wa, hWa⟩ : ∃ Wa, wr.alloc (.cells #[.int .i64 x.f0, .string x.f1, .slice A2 x.f2.length c2] 42) = Wa := ⟨_, rfl⟩; have HWa := Aside0.mk hWa; rw [hWa] at hna hba HIa; have a0 : Wa.cell? ⟨wr.heap.size, 0, none⟩ = some (.int .i64 x.f0) := (q10 hna 0).trans rfl; have a1 : Wa.cell? ⟨wr.heap.size, 1, none⟩ = some (.string x.f1) := (q10 hna 1).trans rfl; have a2 : Wa.cell? ⟨wr.heap.size, 2, none⟩ = some (.slice A2 x.f2.length c2) := (q10 hna 2).trans rfl; have HNA := Aside0.mk hna; have HBA := Aside0.mk (q14 HBr.out hba); have HBA1 := Aside0.mk hba; clear hx hmem hbm hk hna hba hr2 hl2 hrd hWa
      by_cases h1 : x.f0 = 1
      · have e1 : (x.f0 != 1) = false := by simp; exact h1
        obtain ⟨r, hr⟩ : ∃ r, r = rightS x := ⟨_, rfl⟩
        have hck : chrOk x = r := by unfold chrOk; rw [decide_eq_true h1, hr]; rfl
        have HCK := Aside0.mk hck; have HKR : Aside0 (term_right.f k x.f0 x.f1 x.f2 = some r) := ⟨by rw [hr]; exact HK.out⟩; clear hr hck h1
        cases r with
        | false =>
          have HN := Aside0.mk (strR_no HX.out HCK.out)
          go_wp2_with fail
          rw [HWa.out]
          go_wp2_with fail
          refine (term_right.calls k x.f0 x.f1 A2 c2 x.f2 false Wa (Kd.C_below HR2.out HBA1.out) HL2.out HKR.out).mono ?_; rintro e w2 ⟨rfl, hb2⟩; have HB2 := Aside0.mk (q14 HBA.out hb2); clear hb2
          go_wp2_with fail
          go_ret2
          exact ⟨by rw [HN.out]; rfl, HB2.out⟩
        | true =>
          go_wp2_with fail
          rw [HWa.out]
          go_wp2_with fail
          refine (term_right.calls k x.f0 x.f1 A2 c2 x.f2 true Wa (Kd.C_below HR2.out HBA1.out) HL2.out HKR.out).mono ?_; rintro e w2 ⟨rfl, hb2⟩; have HI2 := Aside0.mk (HIa.out.below hb2); have HB2 := Aside0.mk (q14 HBA.out hb2); have b1 : w2.cell? ⟨wr.heap.size, 1, none⟩ = some (.string x.f1) := (q10 ((hb2.block _ (Array.getElem?_eq_some_iff.1 HNA.out).1).trans HNA.out) 1).trans rfl
          have hsl : (Lib.byteCells (strL (l.take q))).length + x.f1.size ≤ 140737488355328 := by
            have h1 := strL_take_len (l := l) (q + 1); rw [strL_take HX.out, List.length_append, ← size_len] at h1; have := HSL.out; rw [Lib.byteCells_length]
            omega
          have HSL2 := Aside0.mk hsl; clear hb2 a0 a1 a2 hsl
          go_wp2_with fail
          refine (WriteString.calls w.heap.size w.heap.size _ x.f1 w2 HI2.out HSL2.out HB2.out.size).mono ?_; rintro e w3 ⟨rfl, hx3, hb3, _⟩; have HI3 := Aside0.mk (isB_of hx3); have HB3 := Aside0.mk (HB2.out.trans hb3); clear hx3 hb3 b1
          go_wp2_with fail
          go_roundw
          case rel =>
            refine ⟨q + 1, by go_num, by omega, ⟨?_⟩, HB3, ⟨?_⟩⟩
            · have := HI3.out; rw [strL_take HX.out, Lib.byteCells_append]; exact this
            · rw [take_succ_at HX.out, List.all_append, HP.out]; simp [HCK.out]
          case measure => simp [intOf]; omega
      · have e1 : (x.f0 != 1) = true := by simp; exact h1
        have HN := Aside0.mk (strR_no HX.out (by unfold chrOk; rw [decide_eq_false h1]; rfl)); clear h1
        go_wp2_with fail
        rw [HWa.out]
        go_wp2_with fail
        go_ret2
        exact ⟨by rw [HN.out]; rfl, HBA.out⟩
    · have hlb : decide ((q : Int) < (l.length : Int)) = false := decide_eq_false (by omega); have hlb' : decide (q < l.length) = false := decide_eq_false hlt; have hqe : l.take q = l := List.take_of_length_le (by omega); rw [hqe] at HI HP; have HR : Aside0 (strR l = (⟨(strL l).toArray⟩, true)) := ⟨by unfold strR; rw [if_pos HP.out]⟩; clear hlt hqe
      go_wp2_with fail
      refine (Try.Builder_String_any w.heap.size w.heap.size (strL l) _ HI.out HBr.out.size).mono ?_; rintro e w3 ⟨rfl, hb3⟩; have HB3 := Aside0.mk (HBr.out.trans hb3); clear hb3
      go_wp2_with fail
      go_ret2
      exact ⟨by rw [HR.out]; rfl, HB3.out⟩
end Go.Proofs.Ytdbjjaodkapikaa.TE
