/- The law TermParts, by hand. -/
import Derived.Test.YtdbjjaodkapikaaHTEAw
import Derived.Test.YtdbjjaodkapikaaHTELErrors
import Derived.Test.YtdbjjaodkapikaaHTEParts6
namespace Go.Proofs.Ytdbjjaodkapikaa.TE
open Go.RowKit Go.Shelf Go.Proofs.YtdbjjaodkapikaaW.PrintWords Go.Proofs.YtdbjjaodkapikaaW.PrintLast Go.Proofs.YtdbjjaodkapikaaW.PrintMore Go.Proofs.Ytdbjjaodkapikaa.Evs
set_option linter.unusedVariables false
set_option linter.unusedSimpArgs false
theorem own_strs {w : World} {base : Nat} {v : Value} {ns : List ByteArray} (h : w.ownsRow base 9 1 v ns.length (ns.map Value.string)) :
    ∃ A c, v = .slice A ns.length c ∧ ns.length ≤ c ∧ Kd.C Kd.string w A ns.length ns :=
  Kd.R_reads (Kd.R_of_own (ok := fun _ => True) h (fun _ _ => trivial))
theorem one_C {w : World} {b : Nat} {x : Tm} {A : Option Addr} {c : Nat} (h : w.heap[b]? = some (.cells #[.int .i64 x.f0, .string x.f1, .slice A x.f2.length c] 42 (0, 0))) (hA : Kd.C k42 w A x.f2.length x.f2) (hc : x.f2.length ≤ c) :
    Kd.C k42 w (some ⟨b, 0, none⟩) 1 [x] := by
  refine ⟨rfl, by decide, fun _ => ⟨_, rfl, fun j p hp => ?_⟩⟩
  have hj : j = 0 := by
    rcases Nat.eq_zero_or_pos j with h | h
    · exact h
    · rw [List.getElem?_eq_none (by simp; omega)] at hp; simp at hp
  subst hj
  obtain rfl : x = p := by simpa using hp
  refine ⟨[.int .i64 x.f0, .string x.f1, .slice A x.f2.length c], rfl, ?_, fun i u hu => ?_⟩
  · exact k42_mk w x hc hA
  · rw [add_plain]; refine (q10 h _).trans ?_
    match i, hu with
    | 0, hu => exact hu
    | 1, hu => exact hu
    | 2, hu => exact hu
theorem varV_len (s : ByteArray) : (varV s).1.f1.size ≤ s.size := by
  unfold varV
  split
  · split
    · have h := size_len (s.extract 2 s.size); rw [extract_list, List.length_take, List.length_drop, ← size_len] at h; show (s.extract 2 s.size).size ≤ s.size
      omega
    · exact Nat.zero_le _
  · exact Nat.zero_le _
theorem Equal_self {l : List Tm} (h : bk42s l ≤ 1099511627776) : ∃ k, chiasmusref01_Equal.f k l l = some true := by
  obtain ⟨v5, _, _, e5, _, i5⟩ := Equals_ev h h; have hv5 : v5 = 0 := i5.2 rfl; subst hv5; obtain ⟨k5, hk5⟩ := e5.get; exact ⟨k5, hk5⟩
theorem chr_bk : ∀ r : List UInt8, bk42s (r.map (fun b => (⟨1, ⟨#[b]⟩, []⟩ : S42))) = 5 * r.length
  | [] => by simp [bk42s]
  | b :: r => by
    have h := chr_bk r; rw [List.map_cons]
    have h1 : ∀ (x : Tm) (m : List Tm), bk42s (x :: m) = bk42 x + bk42s m := fun x m => by simp [bk42s]
    rw [h1, h, bk42_eq]; have h2 : (⟨#[b]⟩ : ByteArray).size = 1 := rfl
    have h3 : bk42s [] = 0 := by simp [bk42s]
    simp only [h2, h3, List.length_cons]
    omega
set_option maxRecDepth 100000 in
set_option maxHeartbeats 4000000 in
theorem TermParts.calls (A : Option Addr) (c : Nat) (l : List Tm) (s : ByteArray) (w : World) (hC : Kd.C k42 w A l.length l) (hc : l.length ≤ c) (ok : ok42s l) (hb : bk42s l + s.size ≤ 1048576) :
    Calls Try.prog 9 #[.slice A l.length c, .string s] w fun e w' => e = .returned (.bool true) ∧ Below w.heap.size w w' := by
  have hbl : bk42s l ≤ 1048576 := by omega
  have hbs : s.size ≤ 1048576 := by omega
  have hbl' : bk42s l ≤ 1099511627776 := by omega
  have HBK := Aside0.mk hbl'; have HBL8 := Aside0.mk hbl; have HSS := Aside0.mk hbs; have HLEN : Aside0 (l.length ≤ 1048576) := ⟨by have := bk_len l; omega⟩; obtain ⟨k1, hk1⟩ := (String_ev hbl).get; obtain ⟨k2, hk2⟩ := (Variable_ev hbs).get; obtain ⟨k3, hk3⟩ := (Variables_ev hbl).get; obtain ⟨k4, hk4⟩ := (Calls_ev _ l (Nat.le_refl _) hbl').get; obtain ⟨k5, hk5⟩ := (Chars_ev (s := s) (by omega)).1.get; obtain ⟨k6, hk6⟩ := (Chars_ev (s := s) (by omega)).2.get; obtain ⟨k7, hk7⟩ := (sEq_ev (l := namesL l) (by have h1 := foldl_len (flat l) []; have h2 := flat_len l; have h3 : (namesL l).length = ((flat l).foldl nmStep []).length := rfl; simp only [List.length_nil] at h1; omega)).get; obtain ⟨k8, hk8⟩ := Equal_self (l := chrL s) (by have := chr_bk s.data.toList; rw [← size_len] at this; unfold chrL; omega); have HK7 := Aside0.mk hk7; have HK8 := Aside0.mk hk8; obtain ⟨k9, hk9⟩ := Equal_self (l := [(⟨(varV s).1.f0, (varV s).1.f1, []⟩ : Tm)]) (by have h1 := varV_len s; have h2 : ∀ (x : Tm), bk42s [x] = bk42 x := fun x => (by simp [bk42s]); have h3 : bk42s [] = 0 := (by simp [bk42s]); rw [h2, bk42_eq, h3]; show (varV s).1.f1.size + 4 + 0 ≤ _; omega); have HK9 := Aside0.mk hk9; obtain ⟨sl, hsl⟩ : ∃ sl, sl = (strR l).1 := ⟨_, rfl⟩; obtain ⟨so, hso⟩ : ∃ so, so = (strR l).2 := ⟨_, rfl⟩; obtain ⟨cb, hcb⟩ : ∃ cb, cb = callsB l := ⟨_, rfl⟩; rw [← hsl, ← hso] at hk1; rw [← hcb] at hk4; have HSL := Aside0.mk hsl; have HSO := Aside0.mk hso; have HCB := Aside0.mk hcb; have hcall0 := Small.calls 1000 (some ⟨w.heap.size, 0, none⟩) 1 1 [l] _ (rows1 hC hc) rfl (Nat.le_refl _); have hbb : Below w.heap.size w (w.alloc (.cells #[.slice A l.length c] 22)) := (Below.refl _ _).alloc (Nat.le_refl _) _; obtain ⟨W0, hW0⟩ : ∃ W0, w.alloc (.cells #[.slice A l.length c] 22) = W0 := ⟨_, rfl⟩; have HW0 := Aside0.mk hW0; rw [hW0] at hcall0 hbb; obtain ⟨b, hbq⟩ : ∃ b, b = (cntAll 1000 [l]).1 := ⟨_, rfl⟩; rw [← hbq] at hcall0; have HC := Aside0.mk hC; have HCC := Aside0.mk hc; have HBL := Aside0.mk hbb; have HCALL0 := Aside0.mk hcall0; have HK1 := Aside0.mk hk1; have HK2 := Aside0.mk hk2; have HK3 := Aside0.mk hk3; have HK4 := Aside0.mk hk4; have HK5 := Aside0.mk hk5; have HK6 := Aside0.mk hk6; clear hC hc ok hb hbl hbs hbl' hk1 hk2 hk3 hk4 hk5 hk6 hk7 hk8 hk9 hcall0 hbb hW0 hbq hsl hso hcb
  go_enter Try.func9, Try.ntmps9
  go_wp2_with fail
  rw [HW0.out]; refine HCALL0.out.mono ?_; rintro e w1 ⟨rfl, hb1⟩; have HB1 := Aside0.mk (q14 HBL.out hb1); clear hb1
  cases b with
  | false =>
    go_wp2_with fail
    refine (awake.calls w1).mono ?_; rintro e w2 ⟨rfl, hb2⟩; have HB2 := Aside0.mk (q14 HB1.out hb2); clear hb2
    go_wp2_with fail
    go_ret; exact ⟨rfl, HB2.out⟩
  | true =>
    by_cases hs : s.size > 1000
    · have hs1 : (decide ((s.size : Int) > 1000)) = true := by simp; omega
      have hs2 : ((s.size : Int) > 1000) = True := by simp; omega
      have hs3 : decide (1000 < s.size) = true := by simp; omega
      clear hs
      go_wp2_with fail
      refine (awake.calls w1).mono ?_; rintro e w2 ⟨rfl, hb2⟩; have HB2 := Aside0.mk (q14 HB1.out hb2); clear hb2
      go_wp2_with fail
      go_ret; exact ⟨rfl, HB2.out⟩
    · have hs1 : (decide ((s.size : Int) > 1000)) = false := by simp; omega
      have hs2 : ((s.size : Int) > 1000) = False := by simp; omega
      have hs3 : decide (1000 < s.size) = false := by simp; omega
      clear hs
      go_wp2_with fail
      go_loopw [27] (fun i wr => ∃ q : Nat, i = .int .i64 q ∧ q ≤ l.length ∧ Aside0 (Below w.heap.size w wr)) (fun i wr => l.length - (intOf i).toNat)
      case atStart => exact ⟨0, rfl, Nat.zero_le _, HB1⟩
      case round =>
        obtain ⟨q, rfl, hq, HBr⟩ := hrel; have hq0 : (0 : Int) ≤ (q : Int) := Int.natCast_nonneg _
        by_cases hlt : q < l.length
        · obtain ⟨x, hx⟩ : ∃ x, l[q]? = some x := ⟨_, List.getElem?_eq_getElem hlt⟩; obtain ⟨ad, A2, c2, rfl, hx0, hx1, hx2, hl2, hr2⟩ := at_T42 HC.out (q : Int) (by omega) (by omega)
          have hrd : rd_T42 l (q : Int) = x := by simp [rd_T42, List.getD_eq_getElem?_getD, hx]
          rw [hrd] at hx0 hx1 hx2 hl2 hr2; rw [Int.toNat_natCast] at hx0 hx1 hx2; replace hx0 := (HBr.out.cell (World.block_lt_of_cell? w _ hx0)).trans hx0; replace hx1 := (HBr.out.cell (World.block_lt_of_cell? w _ hx1)).trans hx1; replace hx2 := (HBr.out.cell (World.block_lt_of_cell? w _ hx2)).trans hx2
          have hlb : decide ((q : Int) < (l.length : Int)) = true := by simp; omega
          have hqi : (q : Int) < (l.length : Int) := by omega
          have hw : IntKind.i64.wrap ((q : Int) + 1) = (q : Int) + 1 := by have := HLEN.out; rw [i64_w]; rw [wrap64_id (by omega) (by omega)]
          have hmem : x ∈ l := List.mem_of_getElem? hx; have hbm := bk_mem hmem
          have hxs : x.f1.size ≤ 1099511627776 := by have := HBK.out; omega
          have HX8 : Aside0 (x.f1.size ≤ 1048576) := ⟨by have := HBL8.out; omega⟩; obtain ⟨r1, hr1⟩ := sym_some x.f0 x.f1 x.f2; obtain ⟨r2, hr2'⟩ := isv_some x.f0 x.f1 x.f2; obtain ⟨nm, hnm⟩ : ∃ nm, nm = nameB x.f0 x.f1 := ⟨_, rfl⟩
          have en1 : ((r1 : Bool) != r1) = false := by simp
          have en2 : ((r2 : Bool) != r2) = false := by simp
          have HNM := Aside0.mk hnm; have HXS := Aside0.mk hxs; have HS1 := Aside0.mk hr1; have HV1 := Aside0.mk hr2'; have HR2 := Aside0.mk (Kd.C_below hr2 HBr.out); have HL2 := Aside0.mk hl2; have hna := World.alloc_heap_new wr (.cells #[.int .i64 x.f0, .string x.f1, .slice A2 x.f2.length c2] 42); have hba : Below wr.heap.size wr (wr.alloc (.cells #[.int .i64 x.f0, .string x.f1, .slice A2 x.f2.length c2] 42)) := (Below.refl _ wr).alloc (Nat.le_refl _) _; obtain ⟨Wa, hWa⟩ : ∃ Wa, wr.alloc (.cells #[.int .i64 x.f0, .string x.f1, .slice A2 x.f2.length c2] 42) = Wa := ⟨_, rfl⟩; have HWa := Aside0.mk hWa; rw [hWa] at hna hba; have a0 : Wa.cell? ⟨wr.heap.size, 0, none⟩ = some (.int .i64 x.f0) := (q10 hna 0).trans rfl; have a1 : Wa.cell? ⟨wr.heap.size, 1, none⟩ = some (.string x.f1) := (q10 hna 1).trans rfl; have a2 : Wa.cell? ⟨wr.heap.size, 2, none⟩ = some (.slice A2 x.f2.length c2) := (q10 hna 2).trans rfl; have HNA := Aside0.mk hna; have HBA := Aside0.mk (q14 HBr.out hba); have HBA1 := Aside0.mk hba; clear hx hmem hbm hna hba hr2 hl2 hrd hWa hr1 hr2' hnm hxs hlt
          go_wp2_with fail
          rw [HWa.out]
          go_wp2_with fail
          go_region_held3 (fun W' => Below wr.heap.size wr W' ∧ W'.cell? ⟨wr.heap.size, 0, none⟩ = some (.int .i64 x.f0) ∧ W'.cell? ⟨wr.heap.size, 1, none⟩ = some (.string x.f1) ∧ W'.cell? ⟨wr.heap.size, 2, none⟩ = some (.slice A2 x.f2.length c2))
            (first
              | exact ⟨below_drew HBA1.out, a0, a1, a2⟩
              | exact ⟨HB7.out, z70, z71, z72⟩
              | exact ⟨HB6.out, z60, z61, z62⟩
              | exact ⟨HB5.out, z50, z51, z52⟩
              | exact ⟨HB4.out, z40, z41, z42⟩
              | exact ⟨HB3.out, z30, z31, z32⟩
              | exact ⟨HB2.out, z20, z21, z22⟩
              | (go_split_ands <;> assumption)
              | fail)
            (first
              | (go_at_call 36; refine (term_IsSymbol.calls x.f0 x.f1 A2 c2 x.f2 r1 _ (Kd.C_below HR2.out (below_drew HBA1.out)) HL2.out HS1.out).mono ?_; rintro e w2 ⟨rfl, hbn⟩; have HB2 := Aside0.mk (q14 (below_drew HBA1.out) hbn); have HN2 := Aside0.mk ((hbn.block _ (Array.getElem?_eq_some_iff.1 HNA.out).1).trans HNA.out); have z20 : w2.cell? ⟨wr.heap.size, 0, none⟩ = some (.int .i64 x.f0) := (q10 HN2.out 0).trans rfl; have z21 : w2.cell? ⟨wr.heap.size, 1, none⟩ = some (.string x.f1) := (q10 HN2.out 1).trans rfl; have z22 : w2.cell? ⟨wr.heap.size, 2, none⟩ = some (.slice A2 x.f2.length c2) := (q10 HN2.out 2).trans rfl; clear hbn)
              | (go_at_call 37; refine (chiasmusref01_IsSymbol.calls x.f0 x.f1 A2 c2 x.f2 r1 _ (Kd.C_below HR2.out HB2.out) HL2.out HS1.out).mono ?_; rintro e w3 ⟨rfl, hbn⟩; have HB3 := Aside0.mk (q14 HB2.out hbn); have HN3 := Aside0.mk ((hbn.block _ (Array.getElem?_eq_some_iff.1 HN2.out).1).trans HN2.out); have z30 : w3.cell? ⟨wr.heap.size, 0, none⟩ = some (.int .i64 x.f0) := (q10 HN3.out 0).trans rfl; have z31 : w3.cell? ⟨wr.heap.size, 1, none⟩ = some (.string x.f1) := (q10 HN3.out 1).trans rfl; have z32 : w3.cell? ⟨wr.heap.size, 2, none⟩ = some (.slice A2 x.f2.length c2) := (q10 HN3.out 2).trans rfl; clear hbn)
              | (go_at_call 38; refine (term_IsVariable.calls x.f0 x.f1 A2 c2 x.f2 r2 _ (Kd.C_below HR2.out HB3.out) HL2.out HV1.out).mono ?_; rintro e w4 ⟨rfl, hbn⟩; have HB4 := Aside0.mk (q14 HB3.out hbn); have HN4 := Aside0.mk ((hbn.block _ (Array.getElem?_eq_some_iff.1 HN3.out).1).trans HN3.out); have z40 : w4.cell? ⟨wr.heap.size, 0, none⟩ = some (.int .i64 x.f0) := (q10 HN4.out 0).trans rfl; have z41 : w4.cell? ⟨wr.heap.size, 1, none⟩ = some (.string x.f1) := (q10 HN4.out 1).trans rfl; have z42 : w4.cell? ⟨wr.heap.size, 2, none⟩ = some (.slice A2 x.f2.length c2) := (q10 HN4.out 2).trans rfl; clear hbn)
              | (go_at_call 39; refine (chiasmusref01_IsVariable.calls x.f0 x.f1 A2 c2 x.f2 r2 _ (Kd.C_below HR2.out HB4.out) HL2.out HV1.out).mono ?_; rintro e w5 ⟨rfl, hbn⟩; have HB5 := Aside0.mk (q14 HB4.out hbn); have HN5 := Aside0.mk ((hbn.block _ (Array.getElem?_eq_some_iff.1 HN4.out).1).trans HN4.out); have z50 : w5.cell? ⟨wr.heap.size, 0, none⟩ = some (.int .i64 x.f0) := (q10 HN5.out 0).trans rfl; have z51 : w5.cell? ⟨wr.heap.size, 1, none⟩ = some (.string x.f1) := (q10 HN5.out 1).trans rfl; have z52 : w5.cell? ⟨wr.heap.size, 2, none⟩ = some (.slice A2 x.f2.length c2) := (q10 HN5.out 2).trans rfl; clear hbn)
              | (go_at_call 40; refine (Name.calls x.f0 x.f1 A2 c2 x.f2 _ (Kd.C_below HR2.out HB5.out) HL2.out (by have := HXS.out; have := HX8.out; omega)).mono ?_; rintro e w6 ⟨rfl, hbn⟩; have HB6 := Aside0.mk (q14 HB5.out hbn); have HN6 := Aside0.mk ((hbn.block _ (Array.getElem?_eq_some_iff.1 HN5.out).1).trans HN5.out); have z60 : w6.cell? ⟨wr.heap.size, 0, none⟩ = some (.int .i64 x.f0) := (q10 HN6.out 0).trans rfl; have z61 : w6.cell? ⟨wr.heap.size, 1, none⟩ = some (.string x.f1) := (q10 HN6.out 1).trans rfl; have z62 : w6.cell? ⟨wr.heap.size, 2, none⟩ = some (.slice A2 x.f2.length c2) := (q10 HN6.out 2).trans rfl; clear hbn)
              | (go_at_call 41; refine (chiasmusref01_Name.calls x.f0 x.f1 A2 c2 x.f2 (nameB x.f0 x.f1) _ (Kd.C_below HR2.out HB6.out) HL2.out (name_eq x.f0 x.f1 x.f2 HXS.out)).mono ?_; rintro e w7 ⟨rfl, hbn⟩; have HB7 := Aside0.mk (q14 HB6.out hbn); have HN7 := Aside0.mk ((hbn.block _ (Array.getElem?_eq_some_iff.1 HN6.out).1).trans HN6.out); have z70 : w7.cell? ⟨wr.heap.size, 0, none⟩ = some (.int .i64 x.f0) := (q10 HN7.out 0).trans rfl; have z71 : w7.cell? ⟨wr.heap.size, 1, none⟩ = some (.string x.f1) := (q10 HN7.out 1).trans rfl; have z72 : w7.cell? ⟨wr.heap.size, 2, none⟩ = some (.slice A2 x.f2.length c2) := (q10 HN7.out 2).trans rfl; clear hbn)
              | fail)
          go_wp2_with fail
          go_roundw
          case rel => exact ⟨q + 1, by go_num, by omega, ⟨q14 HBr.out HB7.out⟩⟩
          case measure => simp [intOf]; omega
        · have hlb : decide ((q : Int) < (l.length : Int)) = false := decide_eq_false (by omega); have hlb' : decide (q < l.length) = false := decide_eq_false hlt; clear hlt
          have evo : ((so : Bool) == so) = true := by simp
          have evc : ((cb : Bool) == cb) = true := by simp
          go_wp2_with fail
          refine (String.calls A c l wr (Kd.C_below HC.out HBr.out) HCC.out HBL8.out).mono ?_; rintro e w2 ⟨rfl, hb2⟩; have HB2 := Aside0.mk (q14 HBr.out hb2); clear hb2; rw [← HSL.out, ← HSO.out]
          go_wp2_with fail
          refine (chiasmusref01_String.calls k1 A c l sl so w2 (Kd.C_below HC.out HB2.out) HCC.out HK1.out).mono ?_; rintro e w3 ⟨rfl, hd3⟩; have HB3 := Aside0.mk (q14 HB2.out hd3.below); clear hd3
          go_wp2_with fail
          refine (Variable.calls s w3 HSS.out).mono ?_; rintro e w4 ⟨rfl, hb4⟩; have HB4 := Aside0.mk (q14 HB3.out hb4); clear hb4; obtain ⟨v0, hv0⟩ : ∃ v0, v0 = (varV s).1.f0 := ⟨_, rfl⟩; obtain ⟨v1, hv1⟩ : ∃ v1, v1 = (varV s).1.f1 := ⟨_, rfl⟩; obtain ⟨vo, hvo⟩ : ∃ vo, vo = (varV s).2 := ⟨_, rfl⟩; have HK2' : Aside0 (chiasmusref01_Variable.f k2 s = some (v0, v1, [], vo)) := ⟨by rw [hv0, hv1, hvo]; exact HK2.out⟩; have HK9' : Aside0 (chiasmusref01_Equal.f k9 [(⟨v0, v1, []⟩ : Tm)] [(⟨v0, v1, []⟩ : Tm)] = some true) := ⟨by rw [hv0, hv1]; exact HK9.out⟩; have HV0 := Aside0.mk hv0; have HV1 := Aside0.mk hv1; rw [← hv0, ← hv1, ← hvo]
          have evp : ((vo : Bool) == vo) = true := by simp
          have hna := World.alloc_heap_new w4 (.cells #[.int .i64 v0, .string v1, .slice none 0 0] 42); have hba : Below w4.heap.size w4 (w4.alloc (.cells #[.int .i64 v0, .string v1, .slice none 0 0] 42)) := (Below.refl _ _).alloc (Nat.le_refl _) _; clear hv0 hv1 hvo; obtain ⟨W5, hW5⟩ : ∃ W5, w4.alloc (.cells #[.int .i64 v0, .string v1, .slice none 0 0] 42) = W5 := ⟨_, rfl⟩; have HW5 := Aside0.mk hW5; rw [hW5] at hna hba; have HN5 := Aside0.mk hna; have HB5 := Aside0.mk (q14 HB4.out hba); clear hna hba hW5
          go_wp2_with fail
          rw [HW5.out]; refine (chiasmusref01_Variable.calls k2 s v0 v1 [] vo W5 HK2'.out).mono ?_; rintro e w6 ⟨vt, rfl, hR, hb6⟩; obtain ⟨At, ct, rfl, hct, hCt⟩ := Kd.R_reads hR; have HCT := Aside0.mk hct; have HCt := Aside0.mk hCt; have HN6 := Aside0.mk ((hb6.block _ (Array.getElem?_eq_some_iff.1 HN5.out).1).trans HN5.out); have HB6 := Aside0.mk (q14 HB5.out hb6); clear hR hct hCt hb6; have hna := World.alloc_heap_new w6 (.cells #[.int .i64 v0, .string v1, .slice At 0 ct] 42); have hba : Below w6.heap.size w6 (w6.alloc (.cells #[.int .i64 v0, .string v1, .slice At 0 ct] 42)) := (Below.refl _ _).alloc (Nat.le_refl _) _; obtain ⟨W7, hW7⟩ : ∃ W7, w6.alloc (.cells #[.int .i64 v0, .string v1, .slice At 0 ct] 42) = W7 := ⟨_, rfl⟩; have HW7 := Aside0.mk hW7; rw [hW7] at hna hba; have HN7 := Aside0.mk hna; have HM7 := Aside0.mk ((hba.block _ (Array.getElem?_eq_some_iff.1 HN6.out).1).trans HN6.out); have HT7 := Aside0.mk (Kd.C_below HCt.out hba); have HB7 := Aside0.mk (q14 HB6.out hba); clear hna hba hW7
          go_wp2_with fail
          rw [HW7.out]; refine (Variables.calls A c l W7 (Kd.C_below HC.out HB7.out) HCC.out HBL8.out).mono ?_; rintro e w8 ⟨vn, rfl, hown, hb8⟩; obtain ⟨An, cn, rfl, hcn, hCn⟩ := own_strs hown; have HCN := Aside0.mk hcn; have HN := Aside0.mk hCn; have HB8 := Aside0.mk (q14 HB7.out hb8); have HU8 := Aside0.mk hb8; clear hown hcn hCn hb8
          go_wp2_with fail
          refine (chiasmusref01_Variables.calls k3 A c l (namesL l) w8 (Kd.C_below HC.out HB8.out) HCC.out HK3.out).mono ?_; rintro e w9 ⟨vm, rfl, hV, hb9⟩; obtain ⟨Am, cm, rfl, hcm, hFm⟩ := hV; have HCM := Aside0.mk hcm; have HM := Aside0.mk (Kd.F_now hFm); have HN9 := Aside0.mk (Kd.C_below HN.out hb9); have HB9 := Aside0.mk (q14 HB8.out hb9); have HU9 := Aside0.mk (q14 HU8.out hb9); clear hcm hFm hb9
          go_wp2_with fail
          refine (slices_Equal_string_string.calls k7 An cn (namesL l) Am cm (namesL l) true w9 HN9.out HCN.out HM.out HCM.out HK7.out).mono ?_; rintro e w10 ⟨rfl, hd10⟩; have HB10 := Aside0.mk (q14 HB9.out hd10.below); have HU10 := Aside0.mk (q14 HU9.out hd10.below); clear hd10
          go_wp2_with fail
          refine (Calls.calls A c l w10 (Kd.C_below HC.out HB10.out) HCC.out).mono ?_; rintro e w11 ⟨rfl, hb11⟩; have HB11 := Aside0.mk (q14 HB10.out hb11); have HU11 := Aside0.mk (q14 HU10.out hb11); clear hb11; rw [← HCB.out]
          go_wp2_with fail
          refine (chiasmusref01_Calls.calls k4 A c l cb w11 (Kd.C_below HC.out HB11.out) HCC.out HK4.out).mono ?_; rintro e w12 ⟨rfl, hd12⟩; have HB12 := Aside0.mk (q14 HB11.out hd12.below); have HU12 := Aside0.mk (q14 HU11.out hd12.below); clear hd12
          go_wp2_with fail
          refine (term_Chars.calls k6 s (chrL s) w12 HK6.out).mono ?_; rintro e w13 ⟨vc, rfl, hR, hb13⟩; obtain ⟨Ac, cc, rfl, hcc, hCc⟩ := Kd.R_reads hR; have HCCc := Aside0.mk hcc; have HCh := Aside0.mk hCc; have HB13 := Aside0.mk (q14 HB12.out hb13); have HU13 := Aside0.mk (q14 HU12.out hb13); clear hR hcc hCc hb13
          go_wp2_with fail
          refine (chiasmusref01_Chars.calls k5 s (chrL s) w13 HK5.out).mono ?_; rintro e w14 ⟨vd, rfl, hR, hb14⟩; obtain ⟨Ad, cd, rfl, hcd, hCd⟩ := Kd.R_reads hR; have HCCd := Aside0.mk hcd; have HCd := Aside0.mk hCd; have HCh14 := Aside0.mk (Kd.C_below HCh.out hb14); have HB14 := Aside0.mk (q14 HB13.out hb14); have HU14 := Aside0.mk (q14 HU13.out hb14); clear hR hcd hCd hb14
          go_wp2_with fail
          refine (chiasmusref01_Equal.calls k8 Ac cc (chrL s) Ad cd (chrL s) true w14 HCh14.out HCCc.out HCd.out HCCd.out HK8.out).mono ?_; rintro e w15 ⟨rfl, hb15⟩; have HB15 := Aside0.mk (q14 HB14.out hb15); have HU15 := Aside0.mk (q14 HU14.out hb15); clear hb15; have hm15 := (HU15.out.block _ (Array.getElem?_eq_some_iff.1 HM7.out).1).trans HM7.out; have hn15 := (HU15.out.block _ (Array.getElem?_eq_some_iff.1 HN7.out).1).trans HN7.out; have x0 : w15.cell? ⟨w4.heap.size, 0, none⟩ = some (.int .i64 v0) := (q10 hm15 0).trans rfl; have x1 : w15.cell? ⟨w4.heap.size, 1, none⟩ = some (.string v1) := (q10 hm15 1).trans rfl; have x2 : w15.cell? ⟨w4.heap.size, 2, none⟩ = some (.slice none 0 0) := (q10 hm15 2).trans rfl; have y0 : w15.cell? ⟨w6.heap.size, 0, none⟩ = some (.int .i64 v0) := (q10 hn15 0).trans rfl; have y1 : w15.cell? ⟨w6.heap.size, 1, none⟩ = some (.string v1) := (q10 hn15 1).trans rfl; have y2 : w15.cell? ⟨w6.heap.size, 2, none⟩ = some (.slice At 0 ct) := (q10 hn15 2).trans rfl; have l4 : w4.heap.size < w15.heap.size := (Array.getElem?_eq_some_iff.1 hm15).1; have l6 : w6.heap.size < w15.heap.size := (Array.getElem?_eq_some_iff.1 hn15).1; clear hm15 hn15
          go_wp2_with fail
          have hp1 := World.alloc_heap_new w15 (.cells #[.int .i64 v0, .string v1, .slice none 0 0] 42); have hp2 : Below w15.heap.size w15 (w15.alloc (.cells #[.int .i64 v0, .string v1, .slice none 0 0] 42)) := (Below.refl _ _).alloc (Nat.le_refl _) _
          have hps : (w15.alloc (.cells #[.int .i64 v0, .string v1, .slice none 0 0] 42)).heap.size = w15.heap.size + 1 := by simp
          obtain ⟨W16, hW16⟩ : ∃ W16, w15.alloc (.cells #[.int .i64 v0, .string v1, .slice none 0 0] 42) = W16 := ⟨_, rfl⟩; rw [hW16] at hp1 hp2 hps ⊢; rw [← hps]; have hp3 := World.alloc_heap_new W16 (.cells #[.int .i64 v0, .string v1, .slice At 0 ct] 42); have hp4 : Below W16.heap.size W16 (W16.alloc (.cells #[.int .i64 v0, .string v1, .slice At 0 ct] 42)) := (Below.refl _ _).alloc (Nat.le_refl _) _; obtain ⟨W17, hW17⟩ : ∃ W17, W16.alloc (.cells #[.int .i64 v0, .string v1, .slice At 0 ct] 42) = W17 := ⟨_, rfl⟩; rw [hW17] at hp3 hp4 ⊢; have hp5 := (hp4.block _ (Array.getElem?_eq_some_iff.1 hp1).1).trans hp1; have HB17 := Aside0.mk (q14 (q14 HB15.out hp2) hp4); have hu17 := q14 (q14 HU15.out hp2) hp4; clear hps hW16 hW17; refine (chiasmusref01_Equal.calls k9 _ 1 [(⟨v0, v1, []⟩ : Tm)] _ 1 [(⟨v0, v1, []⟩ : Tm)] true W17 (one_C (x := ⟨v0, v1, []⟩) hp5 (Kd.C_nil k42 W17) (Nat.le_refl _)) (Nat.le_refl _) (one_C (x := ⟨v0, v1, []⟩) hp3 (Kd.C_below HT7.out hu17) (Nat.zero_le _)) (Nat.le_refl _) HK9'.out).mono ?_; rintro e w18 ⟨rfl, hb18⟩; have HB18 := Aside0.mk (q14 HB17.out hb18); clear hb18 hp1 hp2 hp3 hp4 hp5 hu17 x0 x1 x2 y0 y1 y2 l4 l6
          go_wp2_with fail
          refine (awake.calls w18).mono ?_; rintro e w19 ⟨rfl, hb19⟩; have HB19 := Aside0.mk (q14 HB18.out hb19); clear hb19
          go_wp2_with fail
          go_ret; exact ⟨rfl, HB19.out⟩
end Go.Proofs.Ytdbjjaodkapikaa.TE
