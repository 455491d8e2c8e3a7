/- The reference's Active and Prefix: what they compute; the names on a path, one by one. -/
import Derived.Test.YtjhjhhibbmligaaSTEAv
import Derived.Test.YtjhjhhibbmligaaSTEParts4
import Derived.Test.YtjhjhhibbmligaaSTEAllD
import Derived.Test.YtjhjhhibbmligaaSTEPa
import Derived.Test.YtjhjhhibbmligaaSTEx7
import Derived.Test.YtjhjhhibbmligaaSTENd
import Derived.Test.YtjhjhhibbmligaaSTEx6
section
namespace Go.Proofs.Ytjhjhhibbmligaa.TE
open Go.RowKit Go.Shelf Go.Proofs.YtjhjhhibbmligaaW.PrintWords Go.Proofs.YtjhjhhibbmligaaW.PrintLast Go.Proofs.YtjhjhhibbmligaaW.PrintMore Go.Proofs.Ytjhjhhibbmligaa.Evs
set_option linter.unusedVariables false
set_option linter.unusedSimpArgs false
def stk : List Tm → List Int → List ByteArray
  | _, [] => []
  | l, i :: r => if h : 0 ≤ i ∧ i.toNat < l.length then (if (l[i.toNat]'h.2).f0 = 8 then [(l[i.toNat]'h.2).f1] else []) ++ stk (l[i.toNat]'h.2).f2 r else []
def okP : List Tm → List Int → Prop
  | _, [] => True
  | l, i :: r => ∃ h : 0 ≤ i ∧ i.toNat < l.length, okP (l[i.toNat]'h.2).f2 r
theorem act_good : ∀ (k : Nat) (l : List Tm), SizeOf.sizeOf l ≤ k → ∀ p, act l = some p → okP l p ∧ p.length ≤ (flat l).length := by
  intro k
  induction k with
  | zero => intro l hk; cases l <;> simp at hk
  | succ k ih =>
    intro l hk
    have go : ∀ (n q : Nat), l.length - q = n → ∀ p, act.go (l.drop q) q = some p → okP l p ∧ p.length ≤ (flat l).length := by
      intro n
      induction n with
      | zero =>
        intro q hn p hp; rw [List.drop_eq_nil_of_le (by omega), act_nil] at hp; cases hp
      | succ n ihn =>
        intro q hn p hp
        have hlt : q < l.length := by omega
        rw [List.drop_eq_getElem_cons hlt, act_cons] at hp; have hsz := sizeOf_kids' l q hlt; have h1 := flat_take_succ l q hlt; have h2 := flat_take_le l (q + 1); rw [h1, List.length_append, List.length_cons] at h2; have hin : (0 : Int) ≤ (q : Int) ∧ (q : Int).toNat < l.length := ⟨by omega, by simpa using hlt⟩
        cases hx : act l[q].f2 with
        | some p2 =>
          rw [hx] at hp; simp only [Option.some.injEq] at hp; subst hp; have h3 := ih l[q].f2 (by omega) p2 hx; exact ⟨⟨hin, by simpa using h3.1⟩, by simp only [List.length_cons]; omega⟩
        | none =>
          rw [hx] at hp
          by_cases h8 : l[q].f0 = 8
          · simp only [if_pos h8, Option.some.injEq] at hp; subst hp; exact ⟨⟨hin, trivial⟩, by simp only [List.length_cons, List.length_nil]; omega⟩
          · simp only [if_neg h8] at hp; exact ihn (q + 1) (by omega) p hp
    intro p hp; exact go l.length 0 rfl p (by rw [List.drop_zero]; exact hp)
def actP (l : List Tm) : List Int := (act l).getD []
theorem actP_ok (l : List Tm) : okP l (actP l) := by
  unfold actP
  cases h : act l with
  | none => exact trivial
  | some p => exact (act_good _ l (Nat.le_refl _) p h).1
theorem actP_len (l : List Tm) : (actP l).length ≤ (flat l).length := by
  unfold actP
  cases h : act l with
  | none => simp
  | some p => exact (act_good _ l (Nat.le_refl _) p h).2
theorem stk_len : ∀ (p : List Int) (l : List Tm), (stk l p).length ≤ p.length
  | [], l => by simp [stk]
  | i :: r, l => by
    rw [stk]
    by_cases h : 0 ≤ i ∧ i.toNat < l.length
    · rw [dif_pos h]; have := stk_len r (l[i.toNat]'h.2).f2; rw [List.length_append, List.length_cons]
      split <;> simp <;> omega
    · rw [dif_neg h]; simp
theorem own_CI {w : World} {v : Value} {xs : List Int} {base : Nat} (h : w.ownsRow base 3 1 v xs.length (xs.map (Value.int .i64 ·))) : ∃ A c, v = .slice A xs.length c ∧ xs.length ≤ c ∧ Kd.C (Kd.int .i64) w A xs.length xs :=
  Kd.R_reads (d := Kd.int .i64) (e := 3) (ok := fun _ => True) (Kd.R_of_own h (fun _ _ => trivial))
theorem own_CS {w : World} {v : Value} {xs : List ByteArray} {base : Nat} (h : w.ownsRow base 9 1 v xs.length (xs.map Value.string)) : ∃ A c, v = .slice A xs.length c ∧ xs.length ≤ c ∧ Kd.C Kd.string w A xs.length xs :=
  Kd.R_reads (d := Kd.string) (e := 9) (ok := fun _ => True) (Kd.R_of_own h (fun _ _ => trivial))
theorem act_pair (l : List Tm) : ∀ p, act l = some p → p.length ≤ (flat l).length := fun p h => (act_good _ l (Nat.le_refl _) p h).2
section
attribute [local go_sem] Oper.semAt_some
set_option maxRecDepth 100000 in
set_option maxHeartbeats 4000000 in
theorem Stack.calls (A : Option Addr) (c : Nat) (l : List Tm) (W : World) (hC : Kd.C k42 W A l.length l) (hc : l.length ≤ c) (hb : bk42s l ≤ 1048576) :
    Calls Try.prog 20 #[.slice A l.length c] W fun e W' => ∃ v, e = .returned v ∧ W'.ownsRow 0 9 1 v (stk l (actP l)).length ((stk l (actP l)).map Value.string) ∧ Below W.heap.size W W' := by
  have hu42 := Try.underlying42; have hfl := flat_len l; have hact := Active.calls A c l W hC hc (by omega) (fun p h => by have := act_pair l p h; omega); rw [show ((act l).getD []) = actP l from rfl] at hact; have hok := actP_ok l
  have hpl : (actP l).length ≤ 1048576 := by have := actP_len l; omega
  obtain ⟨p, hp⟩ : ∃ p, p = actP l := ⟨_, rfl⟩; rw [← hp] at hact hok hpl ⊢; have HACT := Aside0.mk hact; have HOK := Aside0.mk hok; have HC := Aside0.mk hC; have HCC := Aside0.mk hc; clear hact hok hC hc hb hp hfl
  go_enter Try.func20, Try.ntmps20
  go_wp2_with (fail)
  refine HACT.out.mono ?_; rintro e w1 ⟨v, rfl, ho1, hb1⟩; obtain ⟨P, d, rfl, hd, hCP⟩ := own_CI ho1; have HP := Aside0.mk hCP; have HB1 := Aside0.mk hb1; clear ho1 hCP hb1
  go_wp2_with (fail)
  go_loopw [0, 5, 15] (fun s vo i wr => ∃ (q : Nat) (cur : List Tm) (A1 : Option Addr) (c1 : Nat) (ns : List ByteArray), i = .int .i64 q ∧ s = .slice A1 cur.length c1 ∧ q ≤ p.length ∧ Aside0 (stk l p = ns ++ stk cur (p.drop q)) ∧ Aside0 (ns.length ≤ q) ∧ Aside0 (okP cur (p.drop q)) ∧ Aside0 (Kd.C k42 W A1 cur.length cur) ∧ Aside0 (cur.length ≤ c1) ∧ Aside0 (wr.ownsRow w1.heap.size 9 1 vo ns.length (ns.map Value.string)) ∧ Aside0 (Below w1.heap.size w1 wr)) (fun s vo i wr => p.length - (intOf i).toNat)
  case atStart => exact ⟨0, l, A, c, [], rfl, rfl, Nat.zero_le _, ⟨by rw [List.drop_zero]; rfl⟩, ⟨Nat.le_refl _⟩, HOK, HC, HCC, ⟨World.ownsRow_nil _ _ _ _⟩, ⟨Below.refl _ _⟩⟩
  case round =>
    obtain ⟨q, cur, A1, c1, ns, rfl, rfl, hq, HS, HN, HK1, HC1, HC1l, HO, HBr⟩ := hrel; have hbr : Below W.heap.size W wr := q12 HB1.out HBr.out
    by_cases hlt : q < p.length
    · obtain ⟨pad, rfl, hpc⟩ := Kd.at_int HP.out (q : Int) (by omega) (by omega); rw [Int.toNat_natCast] at hpc
      have hrd : rd p (q : Int) = p[q] := by simp [rd, List.getD_eq_getElem?_getD, List.getElem?_eq_getElem hlt]
      rw [hrd] at hpc; replace hpc := (HBr.out.cell (World.block_lt_of_cell? w1 _ hpc)).trans hpc; have hk := HK1.out; have hst := HS.out; rw [List.drop_eq_getElem_cons hlt] at hk hst; obtain ⟨i, hi⟩ : ∃ i, i = p[q] := ⟨_, rfl⟩; rw [← hi] at hpc hk hst; obtain ⟨⟨hi0, hi1⟩, hk2⟩ := hk; rw [stk, dif_pos ⟨hi0, hi1⟩] at hst
      have hlb : decide ((q : Int) < (p.length : Int)) = true := by simp; omega
      have hqi : (q : Int) < (p.length : Int) := by omega
      have hw : IntKind.i64.wrap ((q : Int) + 1) = (q : Int) + 1 := by rw [i64_w]; rw [wrap64_id (by omega) (by omega)]
      obtain ⟨ad, A3, c3, rfl, hx0, hx1, hx2, hl3, hr3⟩ := at_T42 HC1.out i hi0 (by omega); have hx : cur[i.toNat]? = some (cur[i.toNat]'hi1) := List.getElem?_eq_getElem hi1; obtain ⟨z, hz⟩ : ∃ z, z = cur[i.toNat]'hi1 := ⟨_, rfl⟩; rw [← hz] at hx hst hk2
      have hrd : rd_T42 cur i = z := by simp [rd_T42, List.getD_eq_getElem?_getD, hx]
      rw [hrd] at hx0 hx1 hx2 hl3 hr3; replace hx0 := (hbr.cell (World.block_lt_of_cell? W _ hx0)).trans hx0; replace hx1 := (hbr.cell (World.block_lt_of_cell? W _ hx1)).trans hx1
      have hilt : (i : Int) < (cur.length : Int) := by omega
      have HL3 := Aside0.mk hl3; have HR3 := Aside0.mk hr3; have HST := Aside0.mk hst; have HK2 := Aside0.mk hk2; have HX2 := Aside0.mk hx2; have HIX := Aside0.mk hi1; clear hz hx hrd hl3 hr3 hi1 hst hk2 hi
      by_cases h8 : z.f0 = 8
      · have e8 : (z.f0 == 8) = true := by simp [h8]
        rw [if_pos h8] at HST; obtain ⟨i0, hi, hz0, hz1, hz2⟩ := info_parts info_str; have HI := Aside0.mk (And.intro hi (And.intro hz0 (And.intro hz1 hz2)))
        have hnl : ns.length ≤ 1048576 := by have := HN.out; omega
        have HNL := Aside0.mk hnl; have hsz1 : w1.heap.size ≤ wr.heap.size := HBr.out.size; have HSZ1 := Aside0.mk hsz1; clear h8 hi hz0 hz1 hz2 hnl hsz1
        go_wp2_with (at_builtin; refine wpList_append_own _ rfl (.tmp 25) (.tmp 31) 23 rfl w1.heap.size 9 i0 (.string ⟨#[]⟩) 1 16 Try.underlying23 HI.out.1 HI.out.2.1 HI.out.2.2.1 HI.out.2.2.2 rfl (by decide) _ ns.length (ns.map Value.string) rfl (own_alloc HO.out _) ⟨wr.heap.size, 0, none⟩ 1 1 [.string z.f1] rfl rfl (cell_one_new _ _ _) (by simp [Value.oneCell']) (by have := HNL.out; simp only [maxLen]; omega) (by have := HNL.out; omega) (by have := HSZ1.out; simp; omega) ?_; intro v7 w7 ho7 hg7 _; have HO7 := Aside0.mk ho7; have hb7 : Below w1.heap.size w1 w7 := (below_al HBr.out _).grown hg7 (by have := HSZ1.out; simp; omega) (fun k e => (own_ltA HO.out k e).2); have HB7 := Aside0.mk hb7; have hx7 := ((HB1.out.trans (hb7.mono HB1.out.size)).cell (World.block_lt_of_cell? W _ HX2.out)).trans HX2.out; clear ho7 hg7 hb7)
        go_roundw
        case rel => exact ⟨q + 1, z.f2, A3, c3, ns ++ [z.f1], by go_num, rfl, by omega, ⟨by rw [List.append_assoc]; exact HST.out⟩, ⟨by have := HN.out; simp; omega⟩, HK2, HR3, HL3, ⟨by rw [List.length_append, List.map_append]; exact HO7.out⟩, HB7⟩
        case measure => simp [intOf]; omega
      · have e8 : (z.f0 == 8) = false := by simp [h8]
        rw [if_neg h8, List.nil_append] at HST; have hx7 := (hbr.cell (World.block_lt_of_cell? W _ HX2.out)).trans HX2.out; clear h8
        go_wp2_with (fail)
        go_roundw
        case rel => exact ⟨q + 1, z.f2, A3, c3, ns, by go_num, rfl, by omega, HST, ⟨by have := HN.out; omega⟩, HK2, HR3, HL3, HO, HBr⟩
        case measure => simp [intOf]; omega
    · obtain rfl : q = p.length := by omega
      have hlb : decide ((p.length : Int) < (p.length : Int)) = false := by simp
      have hst := HS.out; rw [List.drop_length, stk, List.append_nil] at hst; have HST := Aside0.mk hst; clear hst
      go_wp2_with (fail)
      go_ret; exact ⟨_, rfl, by rw [HST.out]; exact own_base0 HO.out, q12 HB1.out HBr.out⟩
end
end Go.Proofs.Ytjhjhhibbmligaa.TE
end
section
namespace Go.Proofs.Ytjhjhhibbmligaa.TE
open Go.RowKit Go.Shelf Go.Proofs.YtjhjhhibbmligaaW.PrintWords Go.Proofs.YtjhjhhibbmligaaW.PrintLast Go.Proofs.YtjhjhhibbmligaaW.PrintMore Go.Proofs.Ytjhjhhibbmligaa.Evs
set_option linter.unusedVariables false
set_option linter.unusedSimpArgs false
def goP : List Tm → List Int → Tm → Option Tm
  | _, [], x => some x
  | l, i :: r, _ => if h : 0 ≤ i ∧ i.toNat < l.length then goP (l[i.toNat]'h.2).f2 r (l[i.toNat]'h.2) else none
def atR (l : List Tm) (p : List Int) : Tm × Bool :=
  match goP l p z42 with
  | none => (z42, false)
  | some x => (x, decide (0 < p.length))
theorem goP_step {l : List Tm} {p : List Int} {q : Nat} {x : Tm} (hq : q < p.length) : goP l (p.drop q) x = if h : 0 ≤ p[q] ∧ p[q].toNat < l.length then goP (l[p[q].toNat]'h.2).f2 (p.drop (q + 1)) (l[p[q].toNat]'h.2) else none := by
  rw [List.drop_eq_getElem_cons hq, goP]
theorem at_results {tmps : Array Value} {W : World} {b : Nat} {k : Int} {t : ByteArray} {u : Value} {v : Bool} (h2 : tmps.getD 4 undef = .pointer (some ⟨b, 0, none⟩)) (h3 : tmps.getD 5 undef = .bool v) (x0 : W.cell? ⟨b, 0, none⟩ = some (.int .i64 k)) (x1 : W.cell? ⟨b, 1, none⟩ = some (.string t)) (x2 : W.cell? ⟨b, 2, none⟩ = some u) :
    (results Try.f36 tmps).run Try.prog W = .ok (.tuple #[.agg #[.int .i64 k, .string t, u], .bool v]) W := by
  have h2' : tmps[4]?.getD undef = .pointer (some ⟨b, 0, none⟩) := by simpa using h2
  have h3' : tmps[5]?.getD undef = .bool v := by simpa using h3
  have hu := Try.underlying42; simp [results, Try.results36, h2', h3', go_sem, x0, x1, x2]
theorem below3' {B b : Nat} {w W : World} {x y z : Value} (h : Below B w W) (hb : B ≤ b) : Below B w (((W.setCell ⟨b, 0, none⟩ x).setCell ⟨b, 1, none⟩ y).setCell ⟨b, 2, none⟩ z) :=
  ((h.setCell (p := ⟨b, 0, none⟩) hb _).setCell (p := ⟨b, 1, none⟩) hb _).setCell (p := ⟨b, 2, none⟩) hb _
theorem oth3 {W : World} {b g : Nat} {x y z : Value} (h : g ≠ b) : (((W.setCell ⟨b, 0, none⟩ x).setCell ⟨b, 1, none⟩ y).setCell ⟨b, 2, none⟩ z).heap[g]? = W.heap[g]? := by
  rw [Below.heap_setCell _ ⟨b, 2, none⟩ _ _ h, Below.heap_setCell _ ⟨b, 1, none⟩ _ _ h, Below.heap_setCell _ ⟨b, 0, none⟩ _ _ h]
set_option maxRecDepth 100000 in
set_option maxHeartbeats 4000000 in
theorem At.calls (A : Option Addr) (c : Nat) (l : List Tm) (P : Option Addr) (d : Nat) (p : List Int) (w : World) (hC : Kd.C k42 w A l.length l) (hc : l.length ≤ c) (hP : Kd.C (Kd.int .i64) w P p.length p) (hd : p.length ≤ d) (hpl : p.length ≤ 1048576) :
    Calls Try.prog 36 #[.slice A l.length c, .slice P p.length d] w fun e w' => ∃ A' c', e = .returned (.tuple #[.agg #[.int .i64 (atR l p).1.f0, .string (atR l p).1.f1, .slice A' (atR l p).1.f2.length c'], .bool (atR l p).2]) ∧ (atR l p).1.f2.length ≤ c' ∧ Kd.C k42 w' A' (atR l p).1.f2.length (atR l p).1.f2 ∧ Below w.heap.size w w' := by
  have hb0 : Below w.heap.size w (w.alloc (.cells #[.int .i64 0, .string ⟨#[]⟩, .slice none 0 0] 42)) := (Below.refl _ _).alloc (Nat.le_refl _) _; have hn0 := World.alloc_heap_new w (.cells #[.int .i64 0, .string ⟨#[]⟩, .slice none 0 0] 42)
  have hs0 : (w.alloc (.cells #[.int .i64 0, .string ⟨#[]⟩, .slice none 0 0] 42)).heap.size = w.heap.size + 1 := by simp
  obtain ⟨W0, hW0⟩ : ∃ W0, w.alloc (.cells #[.int .i64 0, .string ⟨#[]⟩, .slice none 0 0] 42) = W0 := ⟨_, rfl⟩; rw [hW0] at hb0 hn0 hs0; have hb1 : Below W0.heap.size W0 (W0.alloc (.cells #[.int .i64 0, .string ⟨#[]⟩, .slice none 0 0] 42)) := (Below.refl _ _).alloc (Nat.le_refl _) _; have hn1 := World.alloc_heap_new W0 (.cells #[.int .i64 0, .string ⟨#[]⟩, .slice none 0 0] 42); obtain ⟨W1, hW1⟩ : ∃ W1, W0.alloc (.cells #[.int .i64 0, .string ⟨#[]⟩, .slice none 0 0] 42) = W1 := ⟨_, rfl⟩; rw [hW1] at hb1 hn1; have hz1 := (hb1.block _ (Array.getElem?_eq_some_iff.1 hn0).1).trans hn0; rw [hs0] at hn1; have HB1 := Aside0.mk (q12 hb0 hb1); have HN1 := Aside0.mk hn1; have HZ1 := Aside0.mk hz1; have HW : Aside0 ((w.alloc (.cells #[.int .i64 0, .string ⟨#[]⟩, .slice none 0 0] 42)).alloc (.cells #[.int .i64 0, .string ⟨#[]⟩, .slice none 0 0] 42) = W1) := ⟨by rw [hW0, hW1]⟩; have HC := Aside0.mk hC; have HCC := Aside0.mk hc; have HP := Aside0.mk hP; have HPL := Aside0.mk hpl; clear hb0 hn0 hs0 hb1 hn1 hz1 hW1 hW0 hC hc hP hd hpl
  go_enter Try.func36, Try.ntmps36
  go_wp2_with fail
  rw [HW.out]
  go_loopw [0, 11] (fun s i wr => ∃ (q : Nat) (cur : List Tm) (A1 : Option Addr) (c1 : Nat) (x : Tm) (A2 : Option Addr) (c2 : Nat), i = .int .i64 q ∧ s = .slice A1 cur.length c1 ∧ q ≤ p.length ∧ Aside0 (goP l p z42 = goP cur (p.drop q) x) ∧ Aside0 (Kd.C k42 w A1 cur.length cur) ∧ Aside0 (cur.length ≤ c1) ∧ Aside0 (Below w.heap.size w wr) ∧ Aside0 (wr.heap[w.heap.size]? = some (.cells #[.int .i64 0, .string ⟨#[]⟩, .slice none 0 0] 42 (0, 0))) ∧ Aside0 (wr.heap[w.heap.size + 1]? = some (.cells #[.int .i64 x.f0, .string x.f1, .slice A2 x.f2.length c2] 42 (0, 0))) ∧ Aside0 (x.f2.length ≤ c2) ∧ Aside0 (Kd.C k42 w A2 x.f2.length x.f2)) (fun s i wr => p.length - (intOf i).toNat)
  case atStart => exact ⟨0, l, A, c, z42, none, 0, rfl, rfl, Nat.zero_le _, ⟨by rw [List.drop_zero]⟩, HC, HCC, HB1, HZ1, HN1, ⟨Nat.le_refl _⟩, ⟨Kd.C_nil k42 w⟩⟩
  case round =>
    obtain ⟨q, cur, A1, c1, x, A2, c2, rfl, rfl, hq, HG, HC1, HC1l, HB, HZ, HX, HX2, HXC⟩ := hrel; have hq0 : (0 : Int) ≤ (q : Int) := Int.natCast_nonneg _; have x0 : wr.cell? ⟨w.heap.size, 0, none⟩ = some (.int .i64 0) := (q4 HZ.out 0).trans rfl; have x1 : wr.cell? ⟨w.heap.size, 1, none⟩ = some (.string ⟨#[]⟩) := (q4 HZ.out 1).trans rfl; have x2 : wr.cell? ⟨w.heap.size, 2, none⟩ = some (.slice none 0 0) := (q4 HZ.out 2).trans rfl; have f0 : wr.frozen? ⟨w.heap.size, 0, none⟩ = false := q11 HZ.out 0; have f1 : wr.frozen? ⟨w.heap.size, 1, none⟩ = false := q11 HZ.out 1; have f2 : wr.frozen? ⟨w.heap.size, 2, none⟩ = false := q11 HZ.out 2; have y0 : wr.cell? ⟨w.heap.size + 1, 0, none⟩ = some (.int .i64 x.f0) := (q4 HX.out 0).trans rfl; have y1 : wr.cell? ⟨w.heap.size + 1, 1, none⟩ = some (.string x.f1) := (q4 HX.out 1).trans rfl; have y2 : wr.cell? ⟨w.heap.size + 1, 2, none⟩ = some (.slice A2 x.f2.length c2) := (q4 HX.out 2).trans rfl; have g0 : wr.frozen? ⟨w.heap.size + 1, 0, none⟩ = false := q11 HX.out 0; have g1 : wr.frozen? ⟨w.heap.size + 1, 1, none⟩ = false := q11 HX.out 1; have g2 : wr.frozen? ⟨w.heap.size + 1, 2, none⟩ = false := q11 HX.out 2
    by_cases hlt : q < p.length
    · obtain ⟨pad, rfl, hpc⟩ := Kd.at_int HP.out (q : Int) (by omega) (by omega); rw [Int.toNat_natCast] at hpc
      have hrd : rd p (q : Int) = p[q] := by simp [rd, List.getD_eq_getElem?_getD, List.getElem?_eq_getElem hlt]
      rw [hrd] at hpc; replace hpc := (HB.out.cell (World.block_lt_of_cell? w _ hpc)).trans hpc; have HGS := Aside0.mk (HG.out.trans (goP_step (l := cur) (x := x) hlt)); obtain ⟨i, hi⟩ : ∃ i, i = p[q] := ⟨_, rfl⟩; rw [← hi] at hpc HGS
      have hlb : decide ((q : Int) < (p.length : Int)) = true := by simp; omega
      have hqi : (q : Int) < (p.length : Int) := by omega
      have hw : IntKind.i64.wrap ((q : Int) + 1) = (q : Int) + 1 := by have := HPL.out; rw [i64_w]; rw [wrap64_id (by omega) (by omega)]
      clear hi hrd
      by_cases hin : 0 ≤ i ∧ i.toNat < cur.length
      · obtain ⟨hi0, hi1⟩ := hin; obtain ⟨ad, A3, c3, rfl, hx0, hx1, hx2, hl3, hr3⟩ := at_T42 HC1.out i hi0 (by omega); have hx : cur[i.toNat]? = some (cur[i.toNat]'hi1) := List.getElem?_eq_getElem hi1; obtain ⟨z, hz⟩ : ∃ z, z = cur[i.toNat]'hi1 := ⟨_, rfl⟩; rw [dif_pos ⟨hi0, hi1⟩, ← hz] at HGS; rw [← hz] at hx
        have hrd : rd_T42 cur i = z := by simp [rd_T42, List.getD_eq_getElem?_getD, hx]
        rw [hrd] at hx0 hx1 hx2 hl3 hr3; replace hx0 := (HB.out.cell (World.block_lt_of_cell? w _ hx0)).trans hx0; replace hx1 := (HB.out.cell (World.block_lt_of_cell? w _ hx1)).trans hx1; replace hx2 := (HB.out.cell (World.block_lt_of_cell? w _ hx2)).trans hx2; have hib : decide ((i : Int) < 0) = false := decide_eq_false (by omega)
        have hilt : (i : Int) < (cur.length : Int) := by omega
        have hic : decide ((i : Int) ≥ (cur.length : Int)) = false := decide_eq_false (by omega); have HL3 := Aside0.mk hl3; have HR3 := Aside0.mk hr3; clear hz hx hrd hl3 hr3 hi1; have hn' := blk3 (x := .int .i64 z.f0) (y := .string z.f1) (z := .slice A3 z.f2.length c3) HX.out; have ho' := (oth3 (b := w.heap.size + 1) (x := .int .i64 z.f0) (y := .string z.f1) (z := .slice A3 z.f2.length c3) (W := wr) (show w.heap.size ≠ w.heap.size + 1 by omega)).trans HZ.out; have hb' := below3' (b := w.heap.size + 1) (x := .int .i64 z.f0) (y := .string z.f1) (z := .slice A3 z.f2.length c3) HB.out (by omega); obtain ⟨W', hW'⟩ : ∃ W', ((wr.setCell ⟨w.heap.size + 1, 0, none⟩ (.int .i64 z.f0)).setCell ⟨w.heap.size + 1, 1, none⟩ (.string z.f1)).setCell ⟨w.heap.size + 1, 2, none⟩ (.slice A3 z.f2.length c3) = W' := ⟨_, rfl⟩; rw [hW'] at hn' ho' hb'; have HN' := Aside0.mk hn'; have HO' := Aside0.mk ho'; have HB' := Aside0.mk hb'; have HW' := Aside0.mk hW'; have z2 : W'.cell? ⟨w.heap.size + 1, 2, none⟩ = some (.slice A3 z.f2.length c3) := (q4 hn' 2).trans rfl; clear hn' ho' hb' hW'
        go_wp2_with fail
        rw [HW'.out]; exact ⟨⟨q + 1, z.f2, A3, c3, z, A3, c3, by go_num, rfl, by omega, HGS, HR3, HL3, HB', HO', HN', HL3, HR3⟩, by simp [intOf]; omega⟩
      · have HN : Aside0 (atR l p = (z42, false)) := ⟨by unfold atR; rw [HGS.out, dif_neg hin]⟩
        have hout : ((i : Int) < 0) ∨ (i : Int) ≥ (cur.length : Int) := by omega
        by_cases hi0 : i < 0
        · have hib : decide ((i : Int) < 0) = true := decide_eq_true hi0; clear hin hout
          go_wp2_with fail
          refine bodyPost_ret (at_results (b := w.heap.size) rfl rfl ((q4 (blk3 HZ.out) 0).trans rfl) ((q4 (blk3 HZ.out) 1).trans rfl) ((q4 (blk3 HZ.out) 2).trans rfl)) rfl ?_; rw [HN.out]; exact ⟨none, 0, rfl, Nat.le_refl _, Kd.C_nil _ _, below3 HB.out⟩
        · have hib : decide ((i : Int) < 0) = false := decide_eq_false hi0; have hic : decide ((i : Int) ≥ (cur.length : Int)) = true := decide_eq_true (by omega); clear hin hout
          go_wp2_with fail
          refine bodyPost_ret (at_results (b := w.heap.size) rfl rfl ((q4 (blk3 HZ.out) 0).trans rfl) ((q4 (blk3 HZ.out) 1).trans rfl) ((q4 (blk3 HZ.out) 2).trans rfl)) rfl ?_; rw [HN.out]; exact ⟨none, 0, rfl, Nat.le_refl _, Kd.C_nil _ _, below3 HB.out⟩
    · have hqe : q = p.length := by omega
      have HR : Aside0 (atR l p = (x, decide (0 < p.length))) := ⟨by unfold atR; rw [HG.out, hqe, List.drop_length, goP]⟩; have hlb : decide ((q : Int) < (p.length : Int)) = false := decide_eq_false (by omega); have hlb' : decide (q < p.length) = false := decide_eq_false hlt; obtain ⟨pb, hpb⟩ : ∃ pb, pb = decide (0 < p.length) := ⟨_, rfl⟩
      have hgb : decide ((p.length : Int) > 0) = pb := by rw [hpb]; simp
      have HPB := Aside0.mk hpb; clear hqe hlt hpb
      go_wp2_with fail
      refine bodyPost_ret (at_results (b := w.heap.size) rfl rfl ((q4 (blk3 HZ.out) 0).trans rfl) ((q4 (blk3 HZ.out) 1).trans rfl) ((q4 (blk3 HZ.out) 2).trans rfl)) rfl ?_; rw [HR.out]; exact ⟨A2, c2, rfl, HX2.out, Kd.C_below HXC.out (below3 HB.out), below3 HB.out⟩
end Go.Proofs.Ytjhjhhibbmligaa.TE
end
section
namespace Go.Proofs.Ytjhjhhibbmligaa.TE
open Go.RowKit Go.Shelf Go.Proofs.YtjhjhhibbmligaaW.PrintWords Go.Proofs.YtjhjhhibbmligaaW.PrintLast Go.Proofs.YtjhjhhibbmligaaW.PrintMore Go.Proofs.Ytjhjhhibbmligaa.Evs
set_option linter.unusedVariables false
set_option linter.unusedSimpArgs false
theorem rcopy_loop {x0 : List S42} (hb : x0.length ≤ 1099511627776) : ∀ (r : List S42) (n : Nat) (a : List S42), x0.drop n = r → a.length + r.length ≤ 1099511627776 → (∀ x ∈ r, Evt (fun k => chiasmusref01_Copy.f k x.f2) x.f2) →
    Evt (fun k => chiasmusref01_Copy.l0 k x0 a (n : Int)) (a ++ r)
  | [], n, a, h, _, _ => by
    refine Evt.succ ?_; simp only [chiasmusref01_Copy.l0, if_neg (stop h)]; exact (Evt.const _).eq (by simp)
  | x :: r, n, a, h, ha, hk => by
    obtain ⟨h1, h2, h3, h4, h5⟩ := mid h hb; simp only [List.length_cons] at ha
    have hx : (⟨x.f0, x.f1, x.f2⟩ : S42) = x := by cases x; rfl
    have ih : Evt (fun k => chiasmusref01_Copy.l0 k x0 (a ++ [x]) ((n + 1 : Nat) : Int)) (a ++ x :: r) :=
      (rcopy_loop hb r (n + 1) (a ++ [x]) h4 (by simp; omega) fun y hy => hk y (List.mem_cons_of_mem _ hy)).eq (by simp)
    refine Evt.succ ?_; simp only [chiasmusref01_Copy.l0, if_pos h1, if_pos h2, rd_mid h3, h5]
    by_cases c : (x.f2.length : Int) > 0
    · simp only [if_pos c]; refine Evt.bind (hk x List.mem_cons_self) ?_; simp only [if_pos (show a.length < 2932031007402 by omega), hx]; exact ih
    · have hn : x.f2 = [] := List.length_eq_zero_iff.1 (by omega)
      have hx' : (⟨x.f0, x.f1, []⟩ : S42) = x := by cases x; simp only at hn; rw [hn]
      simp only [if_neg c, if_pos (show a.length < 2932031007402 by omega), hx']; exact ih
theorem rcopy_ev : ∀ (n : Nat) (l : List S42), bk42s l ≤ n → n ≤ 1099511627776 → Evt (fun k => chiasmusref01_Copy.f k l) l := by
  intro n
  induction n using Nat.strongRecOn with
  | _ n ih =>
    intro l h hn; have := bk_len l; refine Evt.succ ?_; simp only [chiasmusref01_Copy.f]
    exact (rcopy_loop (by omega) l 0 [] rfl (by simp; omega) fun x hx => by
      have := bk_mem hx
      exact ih (bk42s x.f2) (by omega) x.f2 (Nat.le_refl _) (by omega)).eq (by simp)
theorem one_C {w : World} {b : Nat} {x : Tm} {A : Option Addr} {c : Nat} (h : w.heap[b]? = some (.cells #[.int .i64 x.f0, .string x.f1, .slice A x.f2.length c] 42 (0, 0))) (hA : Kd.C k42 w A x.f2.length x.f2) (hc : x.f2.length ≤ c) :
    Kd.C k42 w (some ⟨b, 0, none⟩) 1 [x] := by
  refine ⟨rfl, by decide, fun _ => ⟨_, rfl, fun j p hp => ?_⟩⟩
  have hj : j = 0 := by
    rcases Nat.eq_zero_or_pos j with h | h
    · exact h
    · rw [List.getElem?_eq_none (by simp; omega)] at hp; simp at hp
  subst hj
  obtain rfl : x = p := by simpa using hp
  refine ⟨[.int .i64 x.f0, .string x.f1, .slice A x.f2.length c], rfl, ?_, fun i u hu => ?_⟩
  · exact k42_mk w x hc hA
  · rw [add_plain]; refine (q4 h _).trans ?_
    match i, hu with
    | 0, hu => exact hu
    | 1, hu => exact hu
    | 2, hu => exact hu
theorem own_one {W : World} {base : Nat} {v : Value} {z : Tm} (h : k42.R 42 W base (fun _ => True) v [z]) :
    ∃ g c A4 c4, v = .slice (some ⟨g, 0, none⟩) 1 c ∧ 1 ≤ c ∧ base ≤ g ∧ W.cell? ⟨g, 0, none⟩ = some (.int .i64 z.f0) ∧ W.cell? ⟨g, 1, none⟩ = some (.string z.f1) ∧ W.cell? ⟨g, 2, none⟩ = some (.slice A4 z.f2.length c4) ∧ z.f2.length ≤ c4 ∧
      ∀ W', (∀ k, base ≤ k → W'.heap[k]? = W.heap[k]?) → k42.C W' A4 z.f2.length z.f2 := by
  obtain ⟨ad, c, rfl⟩ := Kd.R_slice1 h (by simp); have h' : k42.R 42 W base (fun _ => True) (.slice (some ad) 1 c) [z] := h; obtain ⟨g, rfl⟩ := Kd.R_head h'; have hc := (Kd.R_reads' h').2.1
  have hg : base ≤ g := (Kd.R_bound h').1 g (by simp [Value.ownBlock]) |>.2.1
  obtain ⟨cs, hcl, hM, hcc⟩ := Kd.R_get h' z 0 (by omega) (by omega); have hM' : k42.M W base (fun k => True ∧ some k ≠ (Value.slice (some ⟨g, 0, none⟩) 1 c).ownBlock) z cs := hM; obtain ⟨v2, rfl, hR⟩ := k42_openM hM'; obtain ⟨A4, c4, rfl, hl, _⟩ := Kd.R_reads hR
  have cell : ∀ j u, ([.int .i64 z.f0, .string z.f1, .slice A4 z.f2.length c4] : List Value)[j]? = some u → W.cell? ⟨g, j, none⟩ = some u := fun j u hu => by
    have := hcc j u hu; rw [add_plain] at this
    simpa using this
  refine ⟨g, c, A4, c4, rfl, hc, hg, cell 0 _ rfl, cell 1 _ rfl, cell 2 _ rfl, hl, fun W' hW => ?_⟩; exact (Kd.R_reads' (Kd.R_step (Kd.R_bound hR) (fun k hk _ => hW k hk.2.1))).2.2
def rA : List Int → List Tm → Option Tm
  | [], _ => none
  | i :: r, l => if h : 0 ≤ i ∧ i.toNat < l.length then (if r = [] then some (l[i.toNat]'h.2) else rA r (l[i.toNat]'h.2).f2) else none
def rAR (p : List Int) (l : List Tm) : Tm × Bool :=
  match rA p l with
  | none => (z42, false)
  | some x => (x, true)
theorem rat_results {tmps : Array Value} {W : World} {b : Nat} {k : Int} {t : ByteArray} {u : Value} {v : Bool} (h2 : tmps.getD 4 undef = .pointer (some ⟨b, 0, none⟩)) (h3 : tmps.getD 5 undef = .bool v) (x0 : W.cell? ⟨b, 0, none⟩ = some (.int .i64 k)) (x1 : W.cell? ⟨b, 1, none⟩ = some (.string t)) (x2 : W.cell? ⟨b, 2, none⟩ = some u) :
    (results Try.f87 tmps).run Try.prog W = .ok (.tuple #[.agg #[.int .i64 k, .string t, u], .bool v]) W := by
  have h2' : tmps[4]?.getD undef = .pointer (some ⟨b, 0, none⟩) := by simpa using h2
  have h3' : tmps[5]?.getD undef = .bool v := by simpa using h3
  have hu := Try.underlying42; simp [results, Try.results87, h2', h3', go_sem, x0, x1, x2]
set_option maxRecDepth 100000 in
set_option maxHeartbeats 4000000 in
theorem rAt.calls : ∀ (p : List Int) (A : Option Addr) (c : Nat) (l : List Tm) (P : Option Addr) (d : Nat) (w : World) (hC : Kd.C k42 w A l.length l) (hc : l.length ≤ c) (hP : Kd.C (Kd.int .i64) w P p.length p) (hd : p.length ≤ d) (hpl : p.length ≤ 1048576) (hb : bk42s l ≤ 1048576),
    Calls Try.prog 87 #[.slice A l.length c, .slice P p.length d] w fun e w' => ∃ A' c', e = .returned (.tuple #[.agg #[.int .i64 (rAR p l).1.f0, .string (rAR p l).1.f1, .slice A' (rAR p l).1.f2.length c'], .bool (rAR p l).2]) ∧ (rAR p l).1.f2.length ≤ c' ∧ (∀ W', (∀ k, w.heap.size < k → W'.heap[k]? = w'.heap[k]?) → Kd.C k42 W' A' (rAR p l).1.f2.length (rAR p l).1.f2) ∧ Below w.heap.size w w' := by
  intro p
  induction p with
  | nil =>
    intro A c l P d w hC hc hP hd hpl hb; have hb0 : Below w.heap.size w (w.alloc (.cells #[.int .i64 0, .string ⟨#[]⟩, .slice none 0 0] 42)) := (Below.refl _ _).alloc (Nat.le_refl _) _; have hn0 := World.alloc_heap_new w (.cells #[.int .i64 0, .string ⟨#[]⟩, .slice none 0 0] 42); obtain ⟨W0, hW0⟩ : ∃ W0, w.alloc (.cells #[.int .i64 0, .string ⟨#[]⟩, .slice none 0 0] 42) = W0 := ⟨_, rfl⟩; rw [hW0] at hb0 hn0; have HW0 := Aside0.mk hW0; have HN0 := Aside0.mk hn0; have HB0 := Aside0.mk hb0; clear hW0 hC hc hP hd hpl hb hb0; have x0 : W0.cell? ⟨w.heap.size, 0, none⟩ = some (.int .i64 0) := (q4 hn0 0).trans rfl; have x1 : W0.cell? ⟨w.heap.size, 1, none⟩ = some (.string ⟨#[]⟩) := (q4 hn0 1).trans rfl; have x2 : W0.cell? ⟨w.heap.size, 2, none⟩ = some (.slice none 0 0) := (q4 hn0 2).trans rfl; have f0 : W0.frozen? ⟨w.heap.size, 0, none⟩ = false := q11 hn0 0; have f1 : W0.frozen? ⟨w.heap.size, 1, none⟩ = false := q11 hn0 1; have f2 : W0.frozen? ⟨w.heap.size, 2, none⟩ = false := q11 hn0 2; clear hn0
    go_enter Try.func87, Try.ntmps87
    go_wp2_with fail
    rw [HW0.out]
    go_wp2_with fail
    refine bodyPost_ret (rat_results (b := w.heap.size) rfl rfl ((q4 HN0.out 0).trans rfl) ((q4 HN0.out 1).trans rfl) ((q4 HN0.out 2).trans rfl)) rfl ?_; exact ⟨none, 0, rfl, Nat.le_refl _, fun _ _ => Kd.C_nil _ _, HB0.out⟩
  | cons i r ih =>
    intro A c l P d w hC hc hP hd hpl hb; obtain ⟨pad, rfl, hpc⟩ := Kd.at_int hP (0 : Int) (by omega) (by simp only [List.length_cons]; omega); rw [show pad.add (Int.toNat 0) = pad from by simp [Addr.add]] at hpc
    have hrd : rd (i :: r) (0 : Int) = i := by simp [rd]
    rw [hrd] at hpc; obtain ⟨m, hm⟩ : ∃ m, m = (i :: r).length := ⟨_, rfl⟩
    have hm0 : 0 < m := by rw [hm]; simp
    have hmr : m = r.length + 1 := by rw [hm]; simp
    rw [← hm] at hd hpl ⊢; have hb0 : Below w.heap.size w (w.alloc (.cells #[.int .i64 0, .string ⟨#[]⟩, .slice none 0 0] 42)) := (Below.refl _ _).alloc (Nat.le_refl _) _; have hn0 := World.alloc_heap_new w (.cells #[.int .i64 0, .string ⟨#[]⟩, .slice none 0 0] 42); obtain ⟨W0, hW0⟩ : ∃ W0, w.alloc (.cells #[.int .i64 0, .string ⟨#[]⟩, .slice none 0 0] 42) = W0 := ⟨_, rfl⟩; rw [hW0] at hb0 hn0; replace hpc := (hb0.cell (World.block_lt_of_cell? w _ hpc)).trans hpc; have HW0 := Aside0.mk hW0; have HN0 := Aside0.mk hn0; have HB0 := Aside0.mk hb0; have HC := Aside0.mk hC; have HCC := Aside0.mk hc; have HP := Aside0.mk hP; have HD := Aside0.mk hd; have HM := Aside0.mk hm; have HMR := Aside0.mk hmr; have HPL := Aside0.mk hpl; have HBK := Aside0.mk hb; have IH := Aside0.mk ih; have x0 : W0.cell? ⟨w.heap.size, 0, none⟩ = some (.int .i64 0) := (q4 hn0 0).trans rfl; have x1 : W0.cell? ⟨w.heap.size, 1, none⟩ = some (.string ⟨#[]⟩) := (q4 hn0 1).trans rfl; have x2 : W0.cell? ⟨w.heap.size, 2, none⟩ = some (.slice none 0 0) := (q4 hn0 2).trans rfl; have f0 : W0.frozen? ⟨w.heap.size, 0, none⟩ = false := q11 hn0 0; have f1 : W0.frozen? ⟨w.heap.size, 1, none⟩ = false := q11 hn0 1; have f2 : W0.frozen? ⟨w.heap.size, 2, none⟩ = false := q11 hn0 2
    have e0 : (((m : Nat) : Int) == 0) = false := by simp; omega
    have m1 : (0 : Int) < (m : Int) := by omega
    clear hW0 hn0 hb0 hC hc hP hd hm hmr hpl hb ih hrd
    by_cases hin : 0 ≤ i ∧ i.toNat < l.length
    · obtain ⟨hi0, hi1⟩ := hin; have e1 : decide ((i : Int) < 0) = false := decide_eq_false (by omega); have e2 : decide ((i : Int) ≥ (l.length : Int)) = false := decide_eq_false (by omega)
      have hilt : (i : Int) < (l.length : Int) := by omega
      obtain ⟨ad, A3, c3, rfl, hx0, hx1, hx2, hl3, hr3⟩ := at_T42 HC.out i hi0 (by omega); have hx : l[i.toNat]? = some (l[i.toNat]'hi1) := List.getElem?_eq_getElem hi1; have hmem : l[i.toNat]'hi1 ∈ l := List.getElem_mem hi1; have HZ : Aside0 (rA (i :: r) l = if r = [] then some (l[i.toNat]'hi1) else rA r (l[i.toNat]'hi1).f2) := ⟨by rw [rA, dif_pos ⟨hi0, hi1⟩]⟩; obtain ⟨z, hz⟩ : ∃ z, z = l[i.toNat]'hi1 := ⟨_, rfl⟩; rw [← hz] at hx hmem HZ
      have hrd : rd_T42 l i = z := by simp [rd_T42, List.getD_eq_getElem?_getD, hx]
      rw [hrd] at hx0 hx1 hx2 hl3 hr3; replace hx0 := (HB0.out.cell (World.block_lt_of_cell? w _ hx0)).trans hx0; replace hx1 := (HB0.out.cell (World.block_lt_of_cell? w _ hx1)).trans hx1; replace hx2 := (HB0.out.cell (World.block_lt_of_cell? w _ hx2)).trans hx2; have HL3 := Aside0.mk hl3; have HR3 := Aside0.mk hr3; have HMEM := Aside0.mk hmem; have hb1 : Below W0.heap.size W0 (W0.alloc (.cells #[.int .i64 z.f0, .string z.f1, .slice A3 z.f2.length c3] 42)) := (Below.refl _ _).alloc (Nat.le_refl _) _; have hn1 := World.alloc_heap_new W0 (.cells #[.int .i64 z.f0, .string z.f1, .slice A3 z.f2.length c3] 42); obtain ⟨W1, hW1⟩ : ∃ W1, W0.alloc (.cells #[.int .i64 z.f0, .string z.f1, .slice A3 z.f2.length c3] 42) = W1 := ⟨_, rfl⟩; rw [hW1] at hb1 hn1; have HW1 := Aside0.mk hW1; have HN1 := Aside0.mk hn1; have HB1 := Aside0.mk hb1; have HBB1 := Aside0.mk (q12 HB0.out hb1); have HO1 := Aside0.mk ((hb1.block _ (Array.getElem?_eq_some_iff.1 HN0.out).1).trans HN0.out); clear hz hx hrd hl3 hr3 hi1 hmem hb1 hn1 hW1
      go_enter Try.func87, Try.ntmps87
      go_upto_region 1 with fail
      rw [HW0.out]
      go_upto_region 4 with fail
      rw [HW1.out]
      rcases r with _ | ⟨i', r'⟩
      · have e3 : (((m : Nat) : Int) == 1) = true := by have := HMR.out; simp at this; simp [this]
        have hmr : m = 1 := by have := HMR.out; simpa using this
        have HR : Aside0 (rAR [i] l = (z, true)) := ⟨by unfold rAR; rw [HZ.out, if_pos rfl]⟩; obtain ⟨k1, hk1⟩ := (rcopy_ev _ [z] (Nat.le_refl _) (by have h1 := bk_mem HMEM.out; have h2 := HBK.out; have h3 : bk42s [z] = bk42 z := (by simp [bk42s]); have h4 := bk42_eq z; omega)).get; have HK1 := Aside0.mk hk1; have y0 : W1.cell? ⟨W0.heap.size, 0, none⟩ = some (.int .i64 z.f0) := (q4 HN1.out 0).trans rfl; have y1 : W1.cell? ⟨W0.heap.size, 1, none⟩ = some (.string z.f1) := (q4 HN1.out 1).trans rfl; have y2 : W1.cell? ⟨W0.heap.size, 2, none⟩ = some (.slice A3 z.f2.length c3) := (q4 HN1.out 2).trans rfl; have hb2 : Below W1.heap.size W1 (W1.alloc (.cells #[.int .i64 z.f0, .string z.f1, .slice A3 z.f2.length c3] 42)) := (Below.refl _ _).alloc (Nat.le_refl _) _; have hn2 := World.alloc_heap_new W1 (.cells #[.int .i64 z.f0, .string z.f1, .slice A3 z.f2.length c3] 42); obtain ⟨W2, hW2⟩ : ∃ W2, W1.alloc (.cells #[.int .i64 z.f0, .string z.f1, .slice A3 z.f2.length c3] 42) = W2 := ⟨_, rfl⟩; rw [hW2] at hb2 hn2; have HW2 := Aside0.mk hW2; have HN2 := Aside0.mk hn2; have HB2 := Aside0.mk (q12 HBB1.out hb2); have HO2 := Aside0.mk ((hb2.block _ (Array.getElem?_eq_some_iff.1 HO1.out).1).trans HO1.out); clear hb2 hn2 hW2 hk1 x0 x1 x2 f0 f1 f2 hx0 hx1 hx2 hpc; subst hmr
        go_wp2_with fail
        rw [HW2.out]; refine (chiasmusref01_Copy.calls k1 _ 1 [z] [z] W2 (one_C (x := z) HN2.out (Kd.C_below HR3.out HB2.out) HL3.out) (Nat.le_refl _) HK1.out).mono ?_; rintro e w3 ⟨v, rfl, hR, hb3⟩; obtain ⟨g, ct, A4, c4, rfl, hct, hg, q0, q1, q2, hl4, hr4⟩ := own_one hR; have HO3 := Aside0.mk ((hb3.block _ (Array.getElem?_eq_some_iff.1 HO2.out).1).trans HO2.out); have HB3 := Aside0.mk (q12 HB2.out hb3); have HL4 := Aside0.mk hl4; have HR4 := Aside0.mk hr4; have f0 : w3.frozen? ⟨w.heap.size, 0, none⟩ = false := q11 HO3.out 0; have f1 : w3.frozen? ⟨w.heap.size, 1, none⟩ = false := q11 HO3.out 1; have f2 : w3.frozen? ⟨w.heap.size, 2, none⟩ = false := q11 HO3.out 2; have x0 : w3.cell? ⟨w.heap.size, 0, none⟩ = some (.int .i64 0) := (q4 HO3.out 0).trans rfl; have x1 : w3.cell? ⟨w.heap.size, 1, none⟩ = some (.string ⟨#[]⟩) := (q4 HO3.out 1).trans rfl; have x2 : w3.cell? ⟨w.heap.size, 2, none⟩ = some (.slice none 0 0) := (q4 HO3.out 2).trans rfl; have HG : Aside0 (w.heap.size < W2.heap.size) := ⟨(Array.getElem?_eq_some_iff.1 HO2.out).1⟩; clear hR hb3 hg hl4 hr4
        go_wp2_with fail
        refine bodyPost_ret (rat_results (b := w.heap.size) rfl rfl ((q4 (blk3 HO3.out) 0).trans rfl) ((q4 (blk3 HO3.out) 1).trans rfl) ((q4 (blk3 HO3.out) 2).trans rfl)) rfl ?_; rw [HR.out]; exact ⟨A4, c4, rfl, HL4.out, fun W' hW => HR4.out _ (fun k hk => (hW k (by have := HG.out; omega)).trans (oth3 (by have := HG.out; omega))), below3 HB3.out⟩
      · have e3 : (((m : Nat) : Int) == 1) = false := by have := HMR.out; simp at this; simp; omega
        have m2 : (1 : Int) < (m : Int) := by have := HMR.out; simp at this; omega
        have y0 : W1.cell? ⟨W0.heap.size, 0, none⟩ = some (.int .i64 z.f0) := (q4 HN1.out 0).trans rfl; have y1 : W1.cell? ⟨W0.heap.size, 1, none⟩ = some (.string z.f1) := (q4 HN1.out 1).trans rfl; have y2 : W1.cell? ⟨W0.heap.size, 2, none⟩ = some (.slice A3 z.f2.length c3) := (q4 HN1.out 2).trans rfl; clear x0 x1 x2 f0 f1 f2 hx0 hx1 hx2 hpc; have HR : Aside0 (rAR (i :: i' :: r') l = rAR (i' :: r') z.f2) := ⟨by unfold rAR; rw [HZ.out, if_neg (by simp)]⟩
        have HIH : Aside0 (∀ (P : Option Addr) (n d : Nat) (W : World), n = (i' :: r').length → Kd.C k42 W A3 z.f2.length z.f2 → Kd.C (Kd.int .i64) W P n (i' :: r') → n ≤ d →
            Calls Try.prog 87 #[.slice A3 z.f2.length c3, .slice P n d] W fun e w' => ∃ A' c', e = .returned (.tuple #[.agg #[.int .i64 (rAR (i' :: r') z.f2).1.f0, .string (rAR (i' :: r') z.f2).1.f1, .slice A' (rAR (i' :: r') z.f2).1.f2.length c'], .bool (rAR (i' :: r') z.f2).2]) ∧ (rAR (i' :: r') z.f2).1.f2.length ≤ c' ∧ (∀ W', (∀ k, W.heap.size < k → W'.heap[k]? = w'.heap[k]?) → Kd.C k42 W' A' (rAR (i' :: r') z.f2).1.f2.length (rAR (i' :: r') z.f2).1.f2) ∧ Below W.heap.size W w') :=
          ⟨fun P n d W hn h1 h2 h3 => by subst hn; exact IH.out A3 c3 z.f2 P d W h1 HL3.out h2 h3 (by have := HPL.out; have := HMR.out; omega) (by have := bk_mem HMEM.out; have := HBK.out; omega)⟩
        have HT : Aside0 (Kd.C (Kd.int .i64) w (some (pad.add 1)) (m - 1) (i' :: r')) := ⟨by
          have h := Kd.C_drop (c := d) HP.out (m := 1) (by simp) (by rw [← HM.out]; exact HD.out); rw [if_neg (by have := HD.out; omega)] at h
          have hm1 : m - 1 = (i' :: r').length := by have := HMR.out; omega
          rw [hm1]; exact h⟩
        have hpa : pad.add 1 = ⟨pad.block, pad.off + 1, none⟩ := by simp [Addr.add]
        rw [hpa] at HT; have HD1 : Aside0 (m ≤ d ∧ m - 1 = (i' :: r').length) := ⟨HD.out, by have := HMR.out; omega⟩; have hmd : m ≤ d := HD.out
        have hd1 : 1 < d := by omega
        have hd2 : (d = 1) = False := by simp; omega
        have hd3 : (d == 1) = false := by simp; omega
        go_wp2_with fail
        go_region_with (go_at_call 87; refine (HIH.out _ (m - 1) (d - 1) _ HD1.out.2 (Kd.C_below HR3.out (below_drew HBB1.out)) (Kd.C_below HT.out (below_drew HBB1.out)) (by have := HD1.out; omega)).mono ?_; rintro e w3 ⟨A', c', rfl, hl', hC', hb3⟩; have HO3 := Aside0.mk ((hb3.block _ (Array.getElem?_eq_some_iff.1 HO1.out).1).trans HO1.out); have HL' := Aside0.mk hl'; have HC' := Aside0.mk hC'; have HB3 := Aside0.mk (q12 (below_drew HBB1.out) hb3); have f0 : w3.frozen? ⟨w.heap.size, 0, none⟩ = false := q11 HO3.out 0; have f1 : w3.frozen? ⟨w.heap.size, 1, none⟩ = false := q11 HO3.out 1; have f2 : w3.frozen? ⟨w.heap.size, 2, none⟩ = false := q11 HO3.out 2; have x0 : w3.cell? ⟨w.heap.size, 0, none⟩ = some (.int .i64 0) := (q4 HO3.out 0).trans rfl; have x1 : w3.cell? ⟨w.heap.size, 1, none⟩ = some (.string ⟨#[]⟩) := (q4 HO3.out 1).trans rfl; have x2 : w3.cell? ⟨w.heap.size, 2, none⟩ = some (.slice none 0 0) := (q4 HO3.out 2).trans rfl; clear hl' hC' hb3)
        go_wp2_with fail
        all_goals
          refine bodyPost_ret (rat_results (b := w.heap.size) rfl rfl ((q4 (blk3 HO3.out) 0).trans rfl) ((q4 (blk3 HO3.out) 1).trans rfl) ((q4 (blk3 HO3.out) 2).trans rfl)) rfl ?_; rw [HR.out]; exact ⟨A', c', rfl, HL'.out, fun W' hW => HC'.out _ (fun k hk => (hW k (by have := HBB1.out.size; simp at hk; omega)).trans (oth3 (by have := HBB1.out.size; simp at hk; omega))), below3 HB3.out⟩
    · have HR : Aside0 (rAR (i :: r) l = (z42, false)) := ⟨by unfold rAR; rw [rA, dif_neg hin]⟩
      have hout : ((i : Int) < 0) ∨ (i : Int) ≥ (l.length : Int) := by omega
      by_cases hi0 : i < 0
      · have e1 : decide ((i : Int) < 0) = true := decide_eq_true hi0; clear hin hout
        go_enter Try.func87, Try.ntmps87
        go_upto_region 1 with fail
        rw [HW0.out]
        go_wp2_with fail
        refine bodyPost_ret (rat_results (b := w.heap.size) rfl rfl ((q4 (blk3 HN0.out) 0).trans rfl) ((q4 (blk3 HN0.out) 1).trans rfl) ((q4 (blk3 HN0.out) 2).trans rfl)) rfl ?_; rw [HR.out]; exact ⟨none, 0, rfl, Nat.le_refl _, fun _ _ => Kd.C_nil _ _, below3 HB0.out⟩
      · have e1 : decide ((i : Int) < 0) = false := decide_eq_false hi0; have e2 : decide ((i : Int) ≥ (l.length : Int)) = true := decide_eq_true (by omega); clear hin hout
        go_enter Try.func87, Try.ntmps87
        go_upto_region 1 with fail
        rw [HW0.out]
        go_wp2_with fail
        refine bodyPost_ret (rat_results (b := w.heap.size) rfl rfl ((q4 (blk3 HN0.out) 0).trans rfl) ((q4 (blk3 HN0.out) 1).trans rfl) ((q4 (blk3 HN0.out) 2).trans rfl)) rfl ?_; rw [HR.out]; exact ⟨none, 0, rfl, Nat.le_refl _, fun _ _ => Kd.C_nil _ _, below3 HB0.out⟩
end Go.Proofs.Ytjhjhhibbmligaa.TE
end
section
namespace Go.Proofs.Ytjhjhhibbmligaa.TE
open Go.RowKit Go.Shelf Go.Proofs.YtjhjhhibbmligaaW.PrintWords Go.Proofs.YtjhjhhibbmligaaW.PrintLast Go.Proofs.YtjhjhhibbmligaaW.PrintMore Go.Proofs.Ytjhjhhibbmligaa.Evs
set_option linter.unusedVariables false
set_option linter.unusedSimpArgs false
theorem ract_loop {x0 : List S42} (hb : bk42s x0 ≤ 1099511627776) : ∀ (r : List S42) (n : Nat), x0.drop n = r → (∀ x ∈ r, Evt (fun k => chiasmusref11_Active.f k x.f2) (actP x.f2, (act x.f2).isSome)) →
    Evt (fun k => chiasmusref11_Active.l0 k x0 (n : Int)) ((act.go r n).getD [], (act.go r n).isSome)
  | [], n, h, _ => by
    refine Evt.succ ?_; simp only [chiasmusref11_Active.l0, if_neg (stop h)]; exact (Evt.const _).eq (by rw [act_nil]; rfl)
  | x :: r, n, h, hk => by
    have hl := bk_len x0; obtain ⟨h1, h2, h3, h4, h5⟩ := mid h (by omega); have hmem : x ∈ x0 := List.mem_of_mem_drop (by rw [h]; exact List.mem_cons_self); have hm := bk_mem hmem; have hfl := flat_len x.f2; have hpl := actP_len x.f2; refine Evt.succ ?_; simp only [chiasmusref11_Active.l0, if_pos h1, if_pos h2, rd_mid h3, h5]; refine Evt.bind (hk x List.mem_cons_self) ?_
    cases hx : act x.f2 with
    | some p =>
      have hp : actP x.f2 = p := by unfold actP; rw [hx]; rfl
      rw [hp] at hpl; simp only [hp, Option.isSome_some, if_true, Option.bind_some, List.length_singleton]; simp only [if_pos (show 1 + p.length < 17592186044416 by omega)]; exact (Evt.const _).eq (by rw [act_cons, hx]; rfl)
    | none =>
      simp only [Option.isSome_none, Bool.false_eq_true, if_false]
      by_cases c8 : x.f0 = 8
      · simp only [if_pos c8]; exact (Evt.const _).eq (by rw [act_cons, hx]; simp [c8])
      · simp only [if_neg c8]; exact (ract_loop hb r (n + 1) h4 fun y hy => hk y (List.mem_cons_of_mem _ hy)).eq (by rw [act_cons, hx]; simp [c8])
theorem ract_ev : ∀ (n : Nat) (l : List S42), bk42s l ≤ n → n ≤ 1099511627776 → Evt (fun k => chiasmusref11_Active.f k l) (actP l, (act l).isSome) := by
  intro n
  induction n using Nat.strongRecOn with
  | _ n ih =>
    intro l h hn; refine Evt.succ ?_; simp only [chiasmusref11_Active.f]
    exact ract_loop (by omega) l 0 rfl fun x hx => by
      have := bk_mem hx; exact ih (bk42s x.f2) (by omega) x.f2 (Nat.le_refl _) (by omega)
theorem rAR_cons (i : Int) (r : List Int) (l : List Tm) (h : 0 ≤ i ∧ i.toNat < l.length) (hr : r ≠ []) : rAR (i :: r) l = rAR r (l[i.toNat]'h.2).f2 := by
  unfold rAR; rw [rA, dif_pos h, if_neg hr]
theorem rAR_bad (i : Int) (r : List Int) (l : List Tm) (h : ¬ (0 ≤ i ∧ i.toNat < l.length)) : rAR (i :: r) l = (z42, false) := by
  unfold rAR; rw [rA, dif_neg h]
theorem rAR_one (i : Int) (l : List Tm) (h : 0 ≤ i ∧ i.toNat < l.length) : rAR [i] l = (l[i.toNat]'h.2, true) := by
  unfold rAR; rw [rA, dif_pos h, if_pos rfl]
def nmOf (x : Tm) : List ByteArray := if x.f0 = 8 then [x.f1] else []
theorem nmOf_z : nmOf z42 = [] := by unfold nmOf; rw [if_neg]; decide
theorem stk_nil (l : List Tm) : stk l [] = [] := by rw [stk]
theorem stk_in {i : Int} {r : List Int} {l : List Tm} (h : 0 ≤ i ∧ i.toNat < l.length) : stk l (i :: r) = nmOf (l[i.toNat]'h.2) ++ stk (l[i.toNat]'h.2).f2 r := by rw [stk, dif_pos h]; rfl
theorem stk_out {i : Int} {r : List Int} {l : List Tm} (h : ¬ (0 ≤ i ∧ i.toNat < l.length)) : stk l (i :: r) = [] := by rw [stk, dif_neg h]
theorem stk_take : ∀ (p : List Int) (l : List Tm) (q : Nat), q < p.length → stk l (p.take (q + 1)) = stk l (p.take q) ++ nmOf (rAR (p.take (q + 1)) l).1
  | [], l, q, h => by simp at h
  | i :: r, l, 0, h => by
    rw [Nat.zero_add, List.take_succ_cons, List.take_zero, List.take_zero]
    by_cases hi : 0 ≤ i ∧ i.toNat < l.length
    · rw [stk_in hi, rAR_one i l hi, stk_nil, stk_nil]; simp
    · rw [stk_out hi, rAR_bad i [] l hi, stk_nil]; simp [nmOf_z]
  | i :: r, l, q + 1, h => by
    rw [List.take_succ_cons, List.take_succ_cons]; simp only [List.length_cons] at h
    have hne : r.take (q + 1) ≠ [] := by
      intro e; have := congrArg List.length e; rw [List.length_take, List.length_nil] at this
      omega
    by_cases hi : 0 ≤ i ∧ i.toNat < l.length
    · rw [stk_in hi, stk_in hi, rAR_cons i _ l hi hne, stk_take r _ q (by omega), List.append_assoc]
    · rw [stk_out hi, stk_out hi, rAR_bad i _ l hi, nmOf_z]; rfl
def getB (l : List ByteArray) (j : Nat) : Option (List UInt8) := (l[j]?).map (·.data.toList)
theorem getB_bl (l : List ByteArray) (j : Nat) : (bl l)[j]? = getB l j := by unfold bl getB; rw [List.getElem?_map]
def PP (a b : List ByteArray) (n j : Nat) : Prop := getB a j = getB b (if j < n then j else b.length - a.length + j)
theorem PP_all (a b : List ByteArray) (n : Nat) (hle : a.length ≤ b.length) (hn : n ≤ a.length) : (∀ j, j < a.length → PP a b n j) ↔ eqB (a.take n) (b.take n) = true ∧ eqB (a.drop n) (b.drop (b.length - a.length + n)) = true := by
  unfold eqB; rw [decide_eq_true_iff, decide_eq_true_iff]
  constructor
  · intro h
    constructor
    · apply List.ext_getElem?; intro j; rw [getB_bl, getB_bl]; unfold getB; rw [List.getElem?_take, List.getElem?_take]
      by_cases hj : j < n
      · have := h j (by omega); unfold PP at this; rw [if_pos hj] at this; rw [if_pos hj, if_pos hj]; exact this
      · rw [if_neg hj, if_neg hj]
    · apply List.ext_getElem?; intro j; rw [getB_bl, getB_bl]; unfold getB; rw [List.getElem?_drop, List.getElem?_drop]
      by_cases hj : n + j < a.length
      · have := h (n + j) hj; unfold PP at this; rw [if_neg (by omega), show b.length - a.length + (n + j) = b.length - a.length + n + j from by omega] at this; exact this
      · rw [List.getElem?_eq_none (by omega), List.getElem?_eq_none (by omega)]
  · rintro ⟨h1, h2⟩ j hj; unfold PP
    by_cases hjn : j < n
    · have h := congrArg (fun l => l[j]?) h1; simp only [getB_bl] at h; unfold getB at h ⊢; rw [List.getElem?_take, List.getElem?_take, if_pos hjn, if_pos hjn] at h; rw [if_pos hjn]; exact h
    · have h := congrArg (fun l => l[j - n]?) h2; simp only [getB_bl] at h; unfold getB at h ⊢; rw [List.getElem?_drop, List.getElem?_drop, show n + (j - n) = j from by omega, show b.length - a.length + n + (j - n) = b.length - a.length + j from by omega] at h; rw [if_neg hjn]; exact h
theorem getB_at {l : List ByteArray} {j : Nat} (h : j < l.length) : getB l j = some (rdOf ByteArray.empty l (j : Int)).toList := by
  unfold getB; rw [List.getElem?_eq_getElem h]; simp [rdOf, List.getD_eq_getElem?_getD, List.getElem?_eq_getElem h, toList_data]
theorem rp_no (a b : List ByteArray) (n : Int) (hn : 0 ≤ n) (hn2 : n ≤ 1099511627776) (i : Int) (r : Int × Bool) (hr : Evt (fun k => chiasmusref27_Prefix.l0 k a b (n - 1)) r) : Evt (fun k => chiasmusref27_Prefix.l1 k a b n false i) r := by
  have hw : wrap64 (n - 1) = n - 1 := wrap64_id (by omega) (by omega); refine Evt.succ ?_; simp only [chiasmusref27_Prefix.l1, Bool.false_eq_true, if_false]; refine Evt.succ ?_; simp only [chiasmusref27_Prefix.j2, Bool.false_eq_true, if_false, hw]; exact hr
theorem rp_l1 (a b : List ByteArray) (hle : a.length ≤ b.length) (hb : b.length ≤ 1099511627776) (n : Nat) (hn : n < a.length) (r : Int × Bool) (hr : Evt (fun k => chiasmusref27_Prefix.l0 k a b ((n : Int) - 1)) r) :
    ∀ (d i : Nat), a.length - i = d → i ≤ a.length → ((∀ j, i ≤ j → j < a.length → PP a b n j) → Evt (fun k => chiasmusref27_Prefix.l1 k a b n true i) ((n : Int), true)) ∧ ((¬ ∀ j, i ≤ j → j < a.length → PP a b n j) → Evt (fun k => chiasmusref27_Prefix.l1 k a b n true i) r) := by
  intro d
  induction d with
  | zero =>
    intro i hd hi
    obtain rfl : i = a.length := by omega
    refine ⟨fun _ => ?_, fun h => absurd (fun j h1 h2 => absurd h2 (by omega)) h⟩; refine Evt.succ ?_; simp only [chiasmusref27_Prefix.l1, if_true, decide_eq_false (show ¬ (a.length : Int) < (a.length : Int) by omega)]; refine Evt.succ ?_; simp only [chiasmusref27_Prefix.j2, Bool.false_eq_true, if_false, if_true]; exact Evt.const _
  | succ d ih =>
    intro i hd hi
    have hil : i < a.length := by omega
    have hw : wrap64 ((i : Int) + 1) = ((i + 1 : Nat) : Int) := by rw [wrap64_id (by omega) (by omega)]; omega
    have hstep : ∀ c : Bool, (PP a b n i ↔ c = true) → (∀ s, Evt (fun k => chiasmusref27_Prefix.l1 k a b n c ((i + 1 : Nat) : Int)) s → Evt (fun k => chiasmusref27_Prefix.l1 k a b n true i) s) →
        ((∀ j, i ≤ j → j < a.length → PP a b n j) → Evt (fun k => chiasmusref27_Prefix.l1 k a b n true i) ((n : Int), true)) ∧ ((¬ ∀ j, i ≤ j → j < a.length → PP a b n j) → Evt (fun k => chiasmusref27_Prefix.l1 k a b n true i) r) := by
      intro c hc hs; obtain ⟨g1, g2⟩ := ih (i + 1) (by omega) (by omega)
      cases c with
      | true =>
        have hP := hc.2 rfl; refine ⟨fun h => hs _ (g1 (fun j h1 h2 => h j (by omega) h2)), fun h => hs _ (g2 (fun h' => h (fun j h1 h2 => ?_)))⟩
        rcases Nat.lt_or_ge i j with h3 | h3
        · exact h' j h3 h2
        · obtain rfl : i = j := by omega
          exact hP
      | false =>
        have hP : ¬ PP a b n i := fun h => by have := hc.1 h; cases this
        exact ⟨fun h => absurd (h i (Nat.le_refl _) hil) hP, fun _ => hs _ (rp_no a b n (by omega) (by omega) _ r hr)⟩
    by_cases hin : i < n
    · refine hstep ((rdOf ByteArray.empty a (i : Int)).toList == (rdOf ByteArray.empty b (i : Int)).toList) ?_ (fun s hs => ?_)
      · unfold PP; rw [if_pos hin, getB_at hil, getB_at (by omega)]; simp
      · refine Evt.succ ?_; simp only [chiasmusref27_Prefix.l1, if_true, decide_eq_true (show (i : Int) < (a.length : Int) by omega)]; refine Evt.succ ?_; simp only [chiasmusref27_Prefix.j2, if_true, if_pos (show (i : Int) < (n : Int) by omega), if_pos (show (0 : Int) ≤ (i : Int) by omega), if_pos (show (i : Int) < (a.length : Int) by omega), if_pos (show (i : Int) < (b.length : Int) by omega), hw]; exact hs
    · have hw2 : wrap64 (wrap64 ((b.length : Int) - (a.length : Int)) + (i : Int)) = ((b.length - a.length + i : Nat) : Int) := by
        rw [wrap64_id (n := (b.length : Int) - (a.length : Int)) (by omega) (by omega), wrap64_id (by omega) (by omega)]; omega
      refine hstep ((rdOf ByteArray.empty a (i : Int)).toList == (rdOf ByteArray.empty b ((b.length - a.length + i : Nat) : Int)).toList) ?_ (fun s hs => ?_)
      · unfold PP; rw [if_neg hin, getB_at hil, getB_at (by omega)]; simp
      · refine Evt.succ ?_; simp only [chiasmusref27_Prefix.l1, if_true, decide_eq_true (show (i : Int) < (a.length : Int) by omega)]; refine Evt.succ ?_
        simp only [chiasmusref27_Prefix.j2, if_true, if_neg (show ¬ (i : Int) < (n : Int) by omega), if_pos (show (0 : Int) ≤ (i : Int) by omega), if_pos (show (i : Int) < (a.length : Int) by omega), hw2, hw,
          if_pos (show (0 : Int) ≤ ((b.length - a.length + i : Nat) : Int) by omega), if_pos (show ((b.length - a.length + i : Nat) : Int) < (b.length : Int) by omega)]
        exact hs
theorem rp_l0 (a b : List ByteArray) (hle : a.length ≤ b.length) (hb : b.length ≤ 1099511627776) : ∀ m, m ≤ a.length → Evt (fun k => chiasmusref27_Prefix.l0 k a b ((m : Int) - 1)) (pfx a b m) := by
  intro m
  induction m with
  | zero =>
    intro _; refine Evt.succ ?_; simp only [chiasmusref27_Prefix.l0, if_neg (show ¬ ((0 : Nat) : Int) - 1 ≥ 0 by omega), pfx]; exact Evt.const _
  | succ m ih =>
    intro hm
    have he : ((m + 1 : Nat) : Int) - 1 = (m : Int) := by omega
    obtain ⟨g1, g2⟩ := rp_l1 a b hle hb m (by omega) _ (ih (by omega)) a.length 0 rfl (Nat.zero_le _); refine Evt.succ ?_; simp only [chiasmusref27_Prefix.l0, he, if_pos (show (m : Int) ≥ 0 by omega), decide_eq_true (show (b.length : Int) ≥ (a.length : Int) by omega), pfx]; have hP := PP_all a b m hle (by omega)
    by_cases hc : eqB (a.take m) (b.take m) = true ∧ eqB (a.drop m) (b.drop (b.length - a.length + m)) = true
    · rw [if_pos hc]; exact g1 (fun j _ h2 => hP.2 hc j h2)
    · rw [if_neg hc]; exact g2 (fun h => hc (hP.1 (fun j hj => h j (Nat.zero_le _) hj)))
theorem rp_lt (a b : List ByteArray) (hlt : b.length < a.length) (ha : a.length ≤ 1099511627776) : ∀ m, m ≤ a.length → Evt (fun k => chiasmusref27_Prefix.l0 k a b ((m : Int) - 1)) (0, false) := by
  intro m
  induction m with
  | zero =>
    intro _; refine Evt.succ ?_; simp only [chiasmusref27_Prefix.l0, if_neg (show ¬ ((0 : Nat) : Int) - 1 ≥ 0 by omega)]; exact Evt.const _
  | succ m ih =>
    intro hm
    have he : ((m + 1 : Nat) : Int) - 1 = (m : Int) := by omega
    refine Evt.succ ?_; simp only [chiasmusref27_Prefix.l0, he, if_pos (show (m : Int) ≥ 0 by omega), decide_eq_false (show ¬ (b.length : Int) ≥ (a.length : Int) by omega)]; exact rp_no a b m (by omega) (by omega) _ _ (ih (by omega))
theorem rprefix_ev (a b : List ByteArray) (ha : a.length ≤ 1099511627776) (hb : b.length ≤ 1099511627776) : Evt (fun k => chiasmusref27_Prefix.f k a b) (prefixS a b) := by
  have hw : wrap64 ((a.length : Int) - 1) = (a.length : Int) - 1 := wrap64_id (by omega) (by omega); simp only [chiasmusref27_Prefix.f, hw]; unfold prefixS
  by_cases h : b.length < a.length
  · rw [if_pos h]; exact rp_lt a b h ha a.length (Nat.le_refl _)
  · rw [if_neg h]; exact rp_l0 a b (by omega) hb a.length (Nat.le_refl _)
end Go.Proofs.Ytjhjhhibbmligaa.TE
end
