/- Packed: Small, the builder's methods, escape, Name. -/
import Derived.Test.YtjhjhhibbmligaaMTEx0
import Derived.Test.YtjhjhhibbmligaaMTEx1
import Derived.Test.YtjhjhhibbmligaaMTEx2
import Derived.Test.YtjhjhhibbmligaaMTEx3
import Derived.Test.YtjhjhhibbmligaaMTEx11
import Derived.Deep.RegionHeld3
import Derived.Lib.Strings
import Derived.Lib.Walk
import Derived.Lib.Builder
import Derived.Lib.AppendStr
import Derived.Lib.UnsafeStr
import Derived.WalkKit
import Derived.Laws.Externs
import Derived.BigQuiet
import Derived.Laws.Concat
section
namespace Go.Proofs.Ytjhjhhibbmligaa.TE
open Go.RowKit Go.Proofs.YtjhjhhibbmligaaW.PrintWords Go.Proofs.YtjhjhhibbmligaaW.PrintLast Go.Proofs.YtjhjhhibbmligaaW.PrintMore
set_option linter.unusedVariables false
set_option linter.unusedSimpArgs false
abbrev Tm := S42
mutual
def cnt (left : Int) (l : List Tm) (deep : Int) : Bool × Int :=
  if wrap64 (left - l.length) < 0 ∨ 150 < deep then (false, wrap64 (left - l.length)) else cntR (wrap64 (left - l.length)) l deep
termination_by (SizeOf.sizeOf l, 1)
decreasing_by all_goals (simp_wf; exact Prod.Lex.right _ (by decide))
def cntR (n : Int) (l : List Tm) (deep : Int) : Bool × Int :=
  match l with
  | [] => (true, n)
  | t :: r => if (cnt (wrap64 (n - wrap64 ((t.f1.size : Int) / 100))) t.f2 (wrap64 (deep + 1))).1 = true then cntR (cnt (wrap64 (n - wrap64 ((t.f1.size : Int) / 100))) t.f2 (wrap64 (deep + 1))).2 r deep else (false, (cnt (wrap64 (n - wrap64 ((t.f1.size : Int) / 100))) t.f2 (wrap64 (deep + 1))).2)
termination_by (SizeOf.sizeOf l, 0)
decreasing_by all_goals first | (cases t; simp_wf; exact Prod.Lex.left _ _ (by simp; omega)) | (simp_wf; exact Prod.Lex.left _ _ (by simp; omega)) | (cases t; exact Prod.Lex.left _ _ (by simp; omega))
end
theorem sizeOf_kids' (l : List Tm) (i : Nat) (h : i < l.length) : SizeOf.sizeOf (l[i]).f2 < SizeOf.sizeOf l := by
  have h1 := List.sizeOf_lt_of_mem (List.getElem_mem h)
  have h2 : SizeOf.sizeOf (l[i]).f2 < SizeOf.sizeOf l[i] := by cases l[i]; simp; omega
  omega
theorem grown_set (W : World) (b i : Nat) (v : Value) : W.grownBy (W.setCell ⟨b, i, none⟩ v) (some b) :=
  ⟨rfl, rfl, rfl, by simp [World.setCell], fun k hk hne => Below.heap_setCell W ⟨b, i, none⟩ v k (fun e => hne (by rw [e]))⟩
theorem grown_blk {w w' : World} {g k : Nat} {o : Obj} (h : w.grownBy w' (some g)) (hk : w.heap[k]? = some o) (hne : k ≠ g) : w'.heap[k]? = some o := (h.block k (blk_lt hk) (fun e => hne (by cases e; rfl))).trans hk
theorem grown_below {w0 w w' : World} {g : Nat} (hB : Below w0.heap.size w0 w) (h : w.grownBy w' (some g)) (hg : w0.heap.size ≤ g) : Below w0.heap.size w0 w' :=
  hB.grown h hB.size (fun k e => by cases e; exact hg)
set_option maxRecDepth 100000 in
set_option maxHeartbeats 4000000 in
theorem count.calls (w0 : World) : ∀ (k : Nat) (A : Option Addr) (c : Nat) (l : List Tm) (left deep : Int) (bl bc : Nat) (W : World), SizeOf.sizeOf l ≤ k → Kd.C k42 w0 A l.length l → l.length ≤ c → Below w0.heap.size w0 W → w0.heap.size ≤ bl → bl ≠ bc →
      W.heap[bl]? = some (.cells #[.int .i64 left] 3 (0, 0)) → W.heap[bc]? = some (.cells #[.func (.func 82) #[] #[.pointer (some ⟨bl, 0, none⟩), .pointer (some ⟨bc, 0, none⟩)]] 87 (0, 0)) →
      Calls Try.prog 82 #[.slice A l.length c, .int .i64 deep, .pointer (some ⟨bl, 0, none⟩), .pointer (some ⟨bc, 0, none⟩)] W fun e W' =>
        e = .returned (.bool (cnt left l deep).1) ∧ W'.heap[bl]? = some (.cells #[.int .i64 (cnt left l deep).2] 3 (0, 0)) ∧ W.grownBy W' (some bl) := by
  intro k
  induction k with
  | zero => intro A c l left deep bl bc W hk; cases l <;> simp at hk
  | succ k ih =>
    intro A c l left deep bl bc W hk hC hc hB hbl hne hl0 hc0; have hu42 := Try.underlying42; have hmax := Kd.C_max hC; have l0 : W.cell? ⟨bl, 0, none⟩ = some (.int .i64 left) := (q4 hl0 0).trans rfl; have f0 : W.frozen? ⟨bl, 0, none⟩ = false := q11 hl0 0; obtain ⟨n, hn⟩ : ∃ n, n = wrap64 (left - (l.length : Int)) := ⟨_, rfl⟩
    have hs0 : (W.setCell ⟨bl, 0, none⟩ (.int .i64 n)).heap[bl]? = some (.cells #[.int .i64 n] 3 (0, 0)) := by simpa using q21 hl0 0 (.int .i64 n)
    have hK0 : W.grownBy (W.setCell ⟨bl, 0, none⟩ (.int .i64 n)) (some bl) := grown_set W bl 0 _; obtain ⟨W1, hW1⟩ : ∃ W1, W.setCell ⟨bl, 0, none⟩ (.int .i64 n) = W1 := ⟨_, rfl⟩; rw [hW1] at hs0 hK0; have l1 : W1.cell? ⟨bl, 0, none⟩ = some (.int .i64 n) := (q4 hs0 0).trans rfl
    have hcw : IntKind.i64.wrap (left - (l.length : Int)) = n := by rw [hn, i64_w]
    have HC := Aside0.mk hC; have HB := Aside0.mk hB; have HS0 := Aside0.mk hs0; have HK0 := Aside0.mk hK0; have HCW := Aside0.mk hc0; have HC0 := Aside0.mk (grown_blk hK0 hc0 (Ne.symm hne)); have HW1 := Aside0.mk hW1; have HN := Aside0.mk hn; have HK := Aside0.mk hk; clear hC hB hs0 hK0 hl0 hc0 hn hW1 hk
    by_cases hlt0 : n < 0
    · have e1 : decide (n < 0) = true := by simp; exact hlt0
      have hres : cnt left l deep = (false, n) := by rw [cnt, ← HN.out, if_pos (.inl hlt0)]
      have HR := Aside0.mk hres; clear hres
      go_enter Try.func82, Try.ntmps82
      go_wp2_with fail
      rw [HW1.out]
      go_wp2_with fail
      go_ret; rw [HR.out]; exact ⟨rfl, HS0.out, HK0.out⟩
    · by_cases hd : 150 < deep
      · have e1 : decide (n < 0) = false := by simp; omega
        have e2 : decide ((150 : Int) < deep) = true := by simp; exact hd
        have hres : cnt left l deep = (false, n) := by rw [cnt, ← HN.out, if_pos (.inr hd)]
        have HR := Aside0.mk hres; clear hres
        go_enter Try.func82, Try.ntmps82
        go_wp2_with fail
        rw [HW1.out]
        go_wp2_with fail
        go_ret; rw [HR.out]; exact ⟨rfl, HS0.out, HK0.out⟩
      · have e1 : decide (n < 0) = false := by simp; omega
        have e2 : decide ((150 : Int) < deep) = false := by simp; omega
        have hres : cnt left l deep = cntR n l deep := by rw [cnt, ← HN.out, if_neg (by omega)]
        have HR := Aside0.mk hres; clear hres
        go_enter Try.func82, Try.ntmps82
        go_wp2_with fail
        rw [HW1.out]
        go_wp2_with fail
        go_loopw [21] (fun i wr => ∃ (q : Nat) (m : Int), i = .int .i64 q ∧ q ≤ l.length ∧ Aside0 (cntR n l deep = cntR m (l.drop q) deep) ∧ wr.heap[bl]? = some (.cells #[.int .i64 m] 3 (0, 0)) ∧ W.grownBy wr (some bl)) (fun i wr => l.length - (intOf i).toNat)
        case atStart => exact ⟨0, n, rfl, Nat.zero_le _, ⟨by rw [List.drop_zero]⟩, HS0.out, HK0.out⟩
        case round =>
          obtain ⟨q, m, rfl, hq, HM, hbm, hKr⟩ := hrel; have hBr : Below w0.heap.size w0 wr := grown_below HB.out hKr hbl; have hcr := grown_blk hKr (show W.heap[bc]? = _ from HCW.out) (Ne.symm hne)
          by_cases hlt : q < l.length
          · obtain ⟨ad, A2, c2, rfl, hx0, hx1, hx2, hl2, hr2⟩ := at_T42 HC.out (q : Int) (by omega) (by omega)
            have hrd : rd_T42 l (q : Int) = l[q] := by simp [rd_T42, List.getD_eq_getElem?_getD, List.getElem?_eq_getElem hlt]
            rw [hrd] at hx0 hx1 hx2 hl2 hr2; rw [Int.toNat_natCast] at hx0 hx1 hx2; have hdr : l.drop q = l[q] :: l.drop (q + 1) := List.drop_eq_getElem_cons hlt; have hsz := sizeOf_kids' l q hlt; obtain ⟨x, hxx⟩ : ∃ x, l[q] = x := ⟨_, rfl⟩; rw [hxx] at hx0 hx1 hx2 hl2 hr2 hdr hsz
            have hsk : SizeOf.sizeOf x.f2 ≤ k := by have := HK.out; omega
            replace hx0 := (hBr.cell (World.block_lt_of_cell? w0 _ hx0)).trans hx0; replace hx1 := (hBr.cell (World.block_lt_of_cell? w0 _ hx1)).trans hx1; replace hx2 := (hBr.cell (World.block_lt_of_cell? w0 _ hx2)).trans hx2; obtain ⟨sz, hszx⟩ : ∃ sz, sz = x.f1.size := ⟨_, rfl⟩; obtain ⟨m1, hm1⟩ : ∃ m1, m1 = wrap64 (m - wrap64 ((x.f1.size : Int) / 100)) := ⟨_, rfl⟩
            have hlb : decide ((q : Int) < (l.length : Int)) = true := by simp; omega
            have lm : wr.cell? ⟨bl, 0, none⟩ = some (.int .i64 m) := (q4 hbm 0).trans rfl; have fm : wr.frozen? ⟨bl, 0, none⟩ = false := q11 hbm 0; have lc : wr.cell? ⟨bc, 0, none⟩ = some (.func (.func 82) #[] #[.pointer (some ⟨bl, 0, none⟩), .pointer (some ⟨bc, 0, none⟩)]) := (q4 hcr 0).trans rfl; have hblr : bl < wr.heap.size := blk_lt hbm; have hbcr : bc < wr.heap.size := blk_lt hcr
            go_wp2_with fail
            have hsb : (wr.setCell ⟨bl, 0, none⟩ (.int .i64 m1)).heap[bl]? = some (.cells #[.int .i64 m1] 3 (0, 0)) := by simpa using q21 hbm 0 (.int .i64 m1)
            have hga := (grown_set wr bl 0 (.int .i64 m1)).trans (World.grownBy_alloc (wr.setCell ⟨bl, 0, none⟩ (.int .i64 m1)) (.cells #[.int .i64 x.f0, .string x.f1, .slice A2 x.f2.length c2] 42) (some bl)); have hba := (Below.heap_alloc (wr.setCell ⟨bl, 0, none⟩ (.int .i64 m1)) (.cells #[.int .i64 x.f0, .string x.f1, .slice A2 x.f2.length c2] 42) bl (blk_lt hsb)).trans hsb; rw [← hm1]; obtain ⟨W2, hW2⟩ : ∃ W2, (wr.setCell ⟨bl, 0, none⟩ (.int .i64 m1)).alloc (.cells #[.int .i64 x.f0, .string x.f1, .slice A2 x.f2.length c2] 42) = W2 := ⟨_, rfl⟩; rw [hW2] at hga hba ⊢; have hg2 : W.grownBy W2 (some bl) := hKr.trans hga; refine (ih A2 c2 x.f2 m1 (wrap64 (deep + 1)) bl bc W2 hsk hr2 hl2 (grown_below HB.out hg2 hbl) hbl hne hba (grown_blk hg2 HCW.out (Ne.symm hne))).mono ?_; clear ih; rintro e W3 ⟨rfl, hb3, hg3⟩; have hg4 : W.grownBy W3 (some bl) := hg2.trans hg3
            have hcR : cntR m (l.drop q) deep = if (cnt m1 x.f2 (wrap64 (deep + 1))).1 = true then cntR (cnt m1 x.f2 (wrap64 (deep + 1))).2 (l.drop (q + 1)) deep else (false, (cnt m1 x.f2 (wrap64 (deep + 1))).2) := by
              rw [hdr, cntR, ← hm1]
            obtain ⟨b, hb⟩ : ∃ b, b = (cnt m1 x.f2 (wrap64 (deep + 1))).1 := ⟨_, rfl⟩; obtain ⟨m2, hm2⟩ : ∃ m2, m2 = (cnt m1 x.f2 (wrap64 (deep + 1))).2 := ⟨_, rfl⟩; rw [← hb, ← hm2] at hcR; rw [← hm2] at hb3; rw [← hb]; have HCR := Aside0.mk hcR; have HB3 := Aside0.mk hb3; have HG4 := Aside0.mk hg4; clear hcR hb3 hg4 hb hm2 hg3 hga hba hW2 hsb hg2
            cases b with
            | true =>
              go_wp2_with fail
              go_roundw
              case rel => exact ⟨q + 1, m2, by go_num, by omega, ⟨by rw [HM.out, HCR.out]; simp⟩, HB3.out, HG4.out⟩
              case measure => simp [intOf]; omega
            | false =>
              go_wp2_with fail
              go_ret
              have hm : cntR n l deep = (false, m2) := by rw [HM.out, HCR.out]; simp
              rw [HR.out, hm]; exact ⟨rfl, HB3.out, HG4.out⟩
          · obtain rfl : q = l.length := by omega
            have hlb : decide ((l.length : Int) < (l.length : Int)) = false := by simp
            go_wp2_with fail
            go_ret
            have hm : cntR n l deep = (true, m) := by rw [HM.out, List.drop_length, cntR]
            rw [HR.out, hm]; exact ⟨rfl, hbm, hKr⟩
def cntAll : Int → List (List Tm) → Bool × Int
  | n, [] => (true, n)
  | n, l :: r => if (cnt n l 0).1 = true then cntAll (cnt n l 0).2 r else (false, (cnt n l 0).2)
set_option maxRecDepth 100000 in
set_option maxHeartbeats 4000000 in
theorem Small_2.calls (w0 : World) (A : Option Addr) (c : Nat) (l : List Tm) (left : Int) (bl bc : Nat) (W : World) (hC : Kd.C k42 w0 A l.length l) (hc : l.length ≤ c) (hB : Below w0.heap.size w0 W) (hbl : w0.heap.size ≤ bl) (hne : bl ≠ bc)
    (hl : W.heap[bl]? = some (.cells #[.int .i64 left] 3 (0, 0))) (hf : W.heap[bc]? = some (.cells #[.func (.func 82) #[] #[.pointer (some ⟨bl, 0, none⟩), .pointer (some ⟨bc, 0, none⟩)]] 87 (0, 0))) :
    Calls Try.prog 84 #[.slice A l.length c, .pointer (some ⟨bc, 0, none⟩)] W fun e W' =>
        e = .returned (.bool (!(cnt left l 0).1)) ∧ W'.heap[bl]? = some (.cells #[.int .i64 (cnt left l 0).2] 3 (0, 0)) ∧ W.grownBy W' (some bl) := by
  have h := count.calls w0 _ A c l left 0 bl bc W (Nat.le_refl _) hC hc hB hbl hne hl hf; have lc : W.cell? ⟨bc, 0, none⟩ = some (.func (.func 82) #[] #[.pointer (some ⟨bl, 0, none⟩), .pointer (some ⟨bc, 0, none⟩)]) := (q4 hf 0).trans rfl; obtain ⟨p, hp⟩ : ∃ p, p = cnt left l 0 := ⟨_, rfl⟩; rw [← hp] at h ⊢; have H := Aside0.mk h; clear h hp hC hB hl hf
  go_enter Try.func84, Try.ntmps84
  go_wp2_with fail
  refine H.out.mono ?_; clear H; rintro e W1 ⟨rfl, hb1, hg1⟩; have HB1 := Aside0.mk hb1; have HG1 := Aside0.mk hg1; clear hb1 hg1; obtain ⟨b, m⟩ := p
  go_wp2_with fail
  go_ret; exact ⟨rfl, HB1.out, HG1.out⟩
set_option maxRecDepth 100000 in
set_option maxHeartbeats 4000000 in
theorem IndexSmall.calls (w0 : World) (A : Option Addr) (n c : Nat) (ls : List (List Tm)) (left : Int) (bl bc : Nat) (W : World) (hC : Kd.C (Kd.slice 42 k42) w0 A n ls) (hn : ls.length = n) (hc : n ≤ c) (hB : Below w0.heap.size w0 W) (hbl : w0.heap.size ≤ bl) (hne : bl ≠ bc)
    (hl : W.heap[bl]? = some (.cells #[.int .i64 left] 3 (0, 0))) (hf : W.heap[bc]? = some (.cells #[.func (.func 82) #[] #[.pointer (some ⟨bl, 0, none⟩), .pointer (some ⟨bc, 0, none⟩)]] 87 (0, 0))) :
    Calls Try.prog 134 #[.slice A n c, .func (.func 84) #[] #[.pointer (some ⟨bc, 0, none⟩)]] W fun e W' =>
        ∃ v : Int, e = .returned (.int .i64 v) ∧ decide (0 ≤ v) = !(cntAll left ls).1 ∧ W.grownBy W' (some bl) := by
  have hmax := Kd.C_max hC; have HC := Aside0.mk hC; have HB := Aside0.mk hB; have HL := Aside0.mk hl; have HF := Aside0.mk hf; have HN := Aside0.mk hn; have hn0 : (0 : Int) ≤ (n : Int) := Int.natCast_nonneg _; clear hC hB hl hf hn
  go_enter Try.func134, Try.ntmps134
  go_wp2_with fail
  go_loopw [8] (fun i wr => ∃ (q : Nat) (m : Int), i = .int .i64 q ∧ q ≤ n ∧ Aside0 (cntAll left ls = cntAll m (ls.drop q)) ∧ wr.heap[bl]? = some (.cells #[.int .i64 m] 3 (0, 0)) ∧ W.grownBy wr (some bl)) (fun i wr => n - (intOf i).toNat)
  case atStart => exact ⟨0, left, rfl, Nat.zero_le _, ⟨by rw [List.drop_zero]⟩, HL.out, World.grownBy.refl _ _⟩
  case round =>
    obtain ⟨q, m, rfl, hq, HM, hbm, hKr⟩ := hrel
    by_cases hlt : q < n
    · have hql : q < ls.length := by rw [HN.out]; exact hlt
      have hdr : ls.drop q = ls[q] :: ls.drop (q + 1) := List.drop_eq_getElem_cons hql; obtain ⟨ad, rfl, hce⟩ := (HC.out.2.2) (by omega); obtain ⟨cs, hcl, ⟨A2, c2, rfl, hc2, hr2⟩, hcell⟩ := hce q ls[q] (List.getElem?_eq_getElem hql); obtain ⟨x, hx⟩ : ∃ x, ls[q] = x := ⟨_, rfl⟩; rw [hx] at hdr hc2 hr2 hcell
      have hx0 : wr.cell? (ad.add q) = some (.slice A2 x.length c2) := by
        have h0 := hcell 0 _ rfl; rw [show q * (Kd.slice 42 k42).sz + 0 = q by simp [Kd.slice]] at h0; exact ((grown_below HB.out hKr hbl).cell (World.block_lt_of_cell? w0 _ h0)).trans h0
      have hb0 := grown_below HB.out hKr hbl; have hcr := grown_blk hKr HF.out (Ne.symm hne); have hcall := Small_2.calls w0 A2 c2 x m bl bc wr hr2 hc2 hb0 hbl hne hbm hcr
      have hcR : cntAll m (ls.drop q) = if (cnt m x 0).1 = true then cntAll (cnt m x 0).2 (ls.drop (q + 1)) else (false, (cnt m x 0).2) := by rw [hdr, cntAll]
      obtain ⟨r, hr⟩ : ∃ r, r = cnt m x 0 := ⟨_, rfl⟩; rw [← hr] at hcR hcall; obtain ⟨b, m2⟩ := r; have HCALL := Aside0.mk hcall; have HCR := Aside0.mk hcR
      have hlb : decide ((q : Int) < (n : Int)) = true := by simp; omega
      have hq0 : (0 : Int) ≤ (q : Int) := Int.natCast_nonneg _
      have hqn : (q : Int) < (n : Int) := by omega
      clear hce hcell hdr hx hr hcall hcR hb0 hcr hr2 hbm
      go_wp2_with fail
      refine HCALL.out.mono ?_; clear HCALL; rintro e W1 ⟨rfl, hb1, hg1⟩; have hg2 := hKr.trans hg1; clear hKr hg1; have HB1 := Aside0.mk hb1; have HG2 := Aside0.mk hg2; clear hb1 hg2
      cases b with
      | true =>
        go_wp2_with fail
        go_roundw
        case rel => exact ⟨q + 1, m2, by go_num, by omega, ⟨by rw [HM.out, HCR.out]; simp⟩, HB1.out, HG2.out⟩
        case measure => simp [intOf]; omega
      | false =>
        go_wp2_with fail
        go_ret; exact ⟨_, rfl, by rw [HM.out, HCR.out]; simp, HG2.out⟩
    · obtain rfl : q = n := by omega
      have hlb : decide ((q : Int) < (q : Int)) = false := by simp
      clear hbm
      go_wp2_with fail
      go_ret; exact ⟨_, rfl, by rw [HM.out, List.drop_of_length_le (by rw [HN.out]; exact Nat.le_refl _), cntAll]; simp, hKr⟩
set_option maxRecDepth 100000 in
set_option maxHeartbeats 4000000 in
theorem ContainsSmall.calls (w0 : World) (A : Option Addr) (n c : Nat) (ls : List (List Tm)) (left : Int) (bl bc : Nat) (W : World) (hC : Kd.C (Kd.slice 42 k42) w0 A n ls) (hn : ls.length = n) (hc : n ≤ c) (hB : Below w0.heap.size w0 W) (hbl : w0.heap.size ≤ bl) (hne : bl ≠ bc)
    (hl : W.heap[bl]? = some (.cells #[.int .i64 left] 3 (0, 0))) (hf : W.heap[bc]? = some (.cells #[.func (.func 82) #[] #[.pointer (some ⟨bl, 0, none⟩), .pointer (some ⟨bc, 0, none⟩)]] 87 (0, 0))) :
    Calls Try.prog 83 #[.slice A n c, .func (.func 84) #[] #[.pointer (some ⟨bc, 0, none⟩)]] W fun e W' =>
        e = .returned (.bool (!(cntAll left ls).1)) ∧ W.grownBy W' (some bl) := by
  have H := Aside0.mk (IndexSmall.calls w0 A n c ls left bl bc W hC hn hc hB hbl hne hl hf); obtain ⟨b, hb⟩ : ∃ b, b = (cntAll left ls).1 := ⟨_, rfl⟩; rw [← hb] at H ⊢; clear hb hC hn hB hl hf
  go_enter Try.func83, Try.ntmps83
  go_wp2_with fail
  refine H.out.mono ?_; clear H; rintro e W1 ⟨v, rfl, hv, hg⟩; have HG := Aside0.mk hg; clear hg
  go_wp2_with fail
  go_ret; exact ⟨by first | rfl | (rw [hv]) | simp [hv], HG.out⟩
set_option maxRecDepth 100000 in
set_option maxHeartbeats 4000000 in
theorem Small.calls (most : Int) (A : Option Addr) (n c : Nat) (ls : List (List Tm)) (w : World) (hC : Kd.C (Kd.slice 42 k42) w A n ls) (hn : ls.length = n) (hc : n ≤ c) :
    Calls Try.prog 15 #[.int .i64 most, .slice A n c] w fun e w' => e = .returned (.bool (cntAll most ls).1) ∧ Below w.heap.size w w' := by
  obtain ⟨b, hb⟩ : ∃ b, b = (cntAll most ls).1 := ⟨_, rfl⟩; have HC := Aside0.mk hC; have HN := Aside0.mk hn; have HBB := Aside0.mk hb; rw [← hb]; clear hC hn hb
  go_enter Try.func15, Try.ntmps15
  go_wp2_with fail
  have k1 : ((w.alloc (.cells #[.int .i64 most] 3)).alloc (.cells #[.func (.func 82) #[] #[.pointer (some ⟨w.heap.size, 0, none⟩), .pointer (some ⟨w.heap.size + 1, 0, none⟩)]] 87)).heap[w.heap.size]? = some (.cells #[.int .i64 most] 3 (0, 0)) :=
    (Below.heap_alloc _ _ _ (by simp)).trans (World.alloc_heap_new w _)
  have k2 : ((w.alloc (.cells #[.int .i64 most] 3)).alloc (.cells #[.func (.func 82) #[] #[.pointer (some ⟨w.heap.size, 0, none⟩), .pointer (some ⟨w.heap.size + 1, 0, none⟩)]] 87)).heap[w.heap.size + 1]? = some (.cells #[.func (.func 82) #[] #[.pointer (some ⟨w.heap.size, 0, none⟩), .pointer (some ⟨w.heap.size + 1, 0, none⟩)]] 87 (0, 0)) := by
    have := World.alloc_heap_new (w.alloc (.cells #[.int .i64 most] 3)) (.cells #[.func (.func 82) #[] #[.pointer (some ⟨w.heap.size, 0, none⟩), .pointer (some ⟨w.heap.size + 1, 0, none⟩)]] 87)
    simpa using this
  have hb : Below w.heap.size w ((w.alloc (.cells #[.int .i64 most] 3)).alloc (.cells #[.func (.func 82) #[] #[.pointer (some ⟨w.heap.size, 0, none⟩), .pointer (some ⟨w.heap.size + 1, 0, none⟩)]] 87)) := ((Below.refl _ w).alloc (Nat.le_refl _) _).alloc (by simp) _; obtain ⟨W1, hW1⟩ : ∃ W1, (w.alloc (.cells #[.int .i64 most] 3)).alloc (.cells #[.func (.func 82) #[] #[.pointer (some ⟨w.heap.size, 0, none⟩), .pointer (some ⟨w.heap.size + 1, 0, none⟩)]] 87) = W1 := ⟨_, rfl⟩; rw [hW1] at k1 k2 hb ⊢; have hcall := ContainsSmall.calls w A n c ls most w.heap.size (w.heap.size + 1) W1 HC.out HN.out hc hb (Nat.le_refl _) (by omega) k1 k2; rw [← HBB.out] at hcall; refine hcall.mono ?_; clear hcall hW1 k1 k2; rintro e W2 ⟨rfl, hg⟩; have HB2 := Aside0.mk (hb.grown hg hb.size (fun k e => by cases e; exact Nat.le_refl _)); clear hb hg
  go_wp2_with fail
  go_ret; exact ⟨by simp, HB2.out⟩
end Go.Proofs.Ytjhjhhibbmligaa.TE
namespace Go.Proofs.Ytjhjhhibbmligaa.TE
open Go.RowKit Go.Shelf Go.Proofs.YtjhjhhibbmligaaW.PrintWords Go.Proofs.YtjhjhhibbmligaaW.PrintLast Go.Proofs.YtjhjhhibbmligaaW.PrintMore
set_option linter.unusedVariables false
set_option linter.unusedSimpArgs false
attribute [local go_sem] Oper.semAt_some
abbrev IsB (B b : Nat) (bs : List Value) (w : World) : Prop := Lib.IsBuilder 134 5 B b bs w
def KeepT (w w' : World) : Prop := ∀ (k : Nat) (cs : Array Value) (t : TypeId) (fr : Nat × Nat), t ≠ 134 → t ≠ 5 → w.heap[k]? = some (.cells cs t fr) → w'.heap[k]? = some (.cells cs t fr)
theorem KeepT.refl (w : World) : KeepT w w := fun _ _ _ _ _ _ h => h
theorem KeepT.trans {a b c : World} (h : KeepT a b) (k : KeepT b c) : KeepT a c := fun i cs t fr h1 h2 h3 => k i cs t fr h1 h2 (h i cs t fr h1 h2 h3)
theorem KeepT.alloc (w : World) (o : Obj) : KeepT w (w.alloc o) := fun i cs t fr _ _ h => (Below.heap_alloc w o i (Array.getElem?_eq_some_iff.1 h).1).trans h
theorem KeepT.drew (w : World) : KeepT w w.drew := fun i cs t fr _ _ h => h
theorem KeepT.set {w : World} {b : Nat} {cs : Array Value} {fr : Nat × Nat} (hb : w.heap[b]? = some (.cells cs 134 fr)) (i : Nat) (v : Value) : KeepT w (w.setCell ⟨b, i, none⟩ v) := fun k cs' t' fr' h1 h2 h3 => by
  refine (Below.heap_setCell w ⟨b, i, none⟩ v k ?_).trans h3; rintro rfl; rw [show w.heap[k]? = some (.cells cs 134 fr) from hb] at h3
  injection h3 with h3
  injection h3 with _ h4 _
  exact h1 h4.symm
theorem KeepT.grown {w w' : World} {B n : Nat} {v : Value} {xs : List Value} (hg : w.grownBy w' v.ownBlock) (ho : w.ownsRow B 5 1 v n xs) : KeepT w w' := fun k cs t fr h1 h2 h3 => by
  refine (hg.block k (Array.getElem?_eq_some_iff.1 h3).1 ?_).trans h3
  rcases ho.2 with ⟨rfl, _⟩ | ⟨g, cap, cur, rfl, _, hk, _⟩
  · simp [Value.ownBlock]
  · intro e
    obtain rfl : k = g := by simpa [Value.ownBlock] using e
    rw [hk] at h3
    injection h3 with h3
    injection h3 with _ h4 _
    exact h2 h4.symm
end Go.Proofs.Ytjhjhhibbmligaa.TE
namespace Go.Proofs.Ytjhjhhibbmligaa.TE
open Go.RowKit Go.Shelf Go.Proofs.YtjhjhhibbmligaaW.PrintWords Go.Proofs.YtjhjhhibbmligaaW.PrintLast Go.Proofs.YtjhjhhibbmligaaW.PrintMore
set_option linter.unusedVariables false
set_option linter.unusedSimpArgs false
end Go.Proofs.Ytjhjhhibbmligaa.TE
end
