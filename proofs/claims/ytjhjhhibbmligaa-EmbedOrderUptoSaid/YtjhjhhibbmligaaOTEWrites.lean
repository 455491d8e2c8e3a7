/- term.write: what is written of an expression. -/
import Derived.Test.YtjhjhhibbmligaaOTEBa
import Derived.Test.YtjhjhhibbmligaaOTEPa
import Derived.Deep.CutRange
namespace Go.Proofs.Ytjhjhhibbmligaa.TE
open Go.RowKit Go.Shelf Go.Proofs.YtjhjhhibbmligaaW.PrintWords Go.Proofs.YtjhjhhibbmligaaW.PrintLast Go.Proofs.YtjhjhhibbmligaaW.PrintMore Go.Proofs.Ytjhjhhibbmligaa.Evs
set_option linter.unusedVariables false
set_option linter.unusedSimpArgs false
def nextB (p : Option Int) (k : Int) : Bool := decide (k ≠ 1) || decide (p ≠ some 1)
def spaceL (p : Option Int) (k : Int) : List UInt8 := if p.isSome = true ∧ nextB p k = true then [32] else []
def wordL (s : ByteArray) : List UInt8 := if nameS 60 s.data.toList = true then s.data.toList else 34 :: (s.data.toList.flatMap (fun c => esc c 34) ++ [34])
def charL (nx : Bool) (s : ByteArray) (last : Bool) : List UInt8 := (if nx = true then [39] else []) ++ (esc (s.data.toList.headD 0) 39 ++ if last = true then [39] else [])
mutual
def txT (p : Option Int) (last : Bool) : Tm → List UInt8
  | ⟨k, s, ks⟩ => if k = 1 then charL (nextB p k) s last else if k = 2 then wordL s else if k = 3 then s.data.toList
    else if k = 4 then 40 :: (txl none ks ++ [41]) else if k = 8 then 60 :: (s.data.toList ++ ((if 0 < ks.length then [32] else []) ++ (txl none ks ++ [62]))) else (nameB k s).data.toList
def txl (p : Option Int) : List Tm → List UInt8
  | [] => []
  | t :: r => spaceL p t.f0 ++ (txT p (decide ((r.head?.map (·.f0)) ≠ some 1)) t ++ txl (some t.f0) r)
end
theorem txT_eq (p : Option Int) (last : Bool) (x : Tm) : txT p last x = if x.f0 = 1 then charL (nextB p x.f0) x.f1 last else if x.f0 = 2 then wordL x.f1 else if x.f0 = 3 then x.f1.data.toList
    else if x.f0 = 4 then 40 :: (txl none x.f2 ++ [41]) else if x.f0 = 8 then 60 :: (x.f1.data.toList ++ ((if 0 < x.f2.length then [32] else []) ++ (txl none x.f2 ++ [62]))) else (nameB x.f0 x.f1).data.toList := by
  cases x; simp only [txT]
theorem txl_cons (p : Option Int) (t : Tm) (r : List Tm) : txl p (t :: r) = spaceL p t.f0 ++ (txT p (decide ((r.head?.map (·.f0)) ≠ some 1)) t ++ txl (some t.f0) r) := by simp only [txl]
theorem txl_nil (p : Option Int) : txl p [] = [] := by simp only [txl]
def prevK (l : List Tm) (q : Nat) : Option Int := if q = 0 then none else (l[q - 1]?).map (·.f0)
def Wok (l : List Tm) : Prop := ∀ t ∈ flat l, (t.f0 = 1 → 0 < t.f1.size) ∧ t.f1.size ≤ 1099511627776
theorem txl_step (l : List Tm) (q : Nat) (h : q < l.length) : txl (prevK l q) (l.drop q) = spaceL (prevK l q) (l[q]).f0 ++ (txT (prevK l q) (decide (((l.drop (q + 1)).head?.map (·.f0)) ≠ some 1)) l[q] ++ txl (prevK l (q + 1)) (l.drop (q + 1))) := by
  rw [List.drop_eq_getElem_cons h, txl_cons, show prevK l (q + 1) = some (l[q]).f0 by simp [prevK, h]]
theorem escape39.calls (B b : Nat) (bs : List Value) (c : UInt8) (w : World) (h : IsB B b bs w) (hlen : bs.length + 4 ≤ 140737488355328) (hBw : B ≤ w.heap.size) :
    Calls Try.prog 152 #[.pointer (some ⟨b, 0, none⟩), .int .u8 (c.toNat : Int), .int .u8 39] w fun e w' => e = .returned (.tuple #[]) ∧ IsB B b (bs ++ Lib.byteCells (esc c 39)) w' ∧ Below B w w' ∧ KeepT w w' := escape.calls B b bs c 39 w h hlen hBw
theorem escape34.calls (B b : Nat) (bs : List Value) (c : UInt8) (w : World) (h : IsB B b bs w) (hlen : bs.length + 4 ≤ 140737488355328) (hBw : B ≤ w.heap.size) :
    Calls Try.prog 152 #[.pointer (some ⟨b, 0, none⟩), .int .u8 (c.toNat : Int), .int .u8 34] w fun e w' => e = .returned (.tuple #[]) ∧ IsB B b (bs ++ Lib.byteCells (esc c 34)) w' ∧ Below B w w' ∧ KeepT w w' := escape.calls B b bs c 34 w h hlen hBw
theorem size60 : (⟨#[60]⟩ : ByteArray).size = 1 := rfl
theorem esc_le (c q : UInt8) : (esc c q).length ≤ 4 := by unfold esc; split <;> (try split) <;> (try split) <;> (try split) <;> simp
theorem flat_le (q : UInt8) : ∀ l : List UInt8, (l.flatMap (fun c => esc c q)).length ≤ 4 * l.length
  | [] => by simp
  | c :: r => by
    have h1 := flat_le q r; have h2 := esc_le c q; rw [List.flatMap_cons, List.length_append, List.length_cons]; omega
theorem take_flat (s : ByteArray) (j : Nat) (h : j < s.size) : (s.data.toList.take (j + 1)).flatMap (fun c => esc c 34) = (s.data.toList.take j).flatMap (fun c => esc c 34) ++ esc (s[j]'h) 34 := by
  have hl : j < s.data.toList.length := by rw [← size_len]; exact h
  rw [List.take_succ_eq_append_getElem hl, List.flatMap_append]
  have : s.data.toList[j]'hl = s[j]'h := by simp; rfl
  rw [this]; simp
theorem below_drawn {w W : World} (h : Drawn0 w W) : Below w.heap.size w W := by
  obtain ⟨n, rfl⟩ := h.out; exact belowN (Below.refl _ _)
theorem KeepT.below {w W : World} (h : Below w.heap.size w W) : KeepT w W := fun k cs t fr _ _ hk => (h.block k (Array.getElem?_eq_some_iff.1 hk).1).trans hk
theorem own_below {w W : World} {B n : Nat} {e : TypeId} {v : Value} {xs : List Value} (ho : w.ownsRow B e 1 v n xs) (h : Below w.heap.size w W) : W.ownsRow B e 1 v n xs := by
  obtain ⟨h1, h2⟩ := ho; refine ⟨h1, ?_⟩
  rcases h2 with h2 | ⟨b, cap, cur, rfl, hb, hh, r⟩
  · exact .inl h2
  · exact .inr ⟨b, cap, cur, rfl, hb, (h.block b (Array.getElem?_eq_some_iff.1 hh).1).trans hh, r⟩
theorem IsB.below {B b : Nat} {bs : List Value} {w W : World} (h : IsB B b bs w) (hb : Below w.heap.size w W) : IsB B b bs W := by
  rcases h with ⟨h1, v, h2, h3, h4⟩ | ⟨h1, v, h2, h3, h4⟩
  · exact .inl ⟨h1, v, (hb.block b (Array.getElem?_eq_some_iff.1 h2).1).trans h2, own_below h3 hb, h4⟩
  · exact .inr ⟨h1, v, (hb.block b (Array.getElem?_eq_some_iff.1 h2).1).trans h2, own_below h3 hb, h4⟩
theorem nameB_le (k : Int) (s : ByteArray) : (nameB k s).size ≤ s.size + 2 := by
  unfold nameB
  split
  · rw [ByteArray.size_append]
    have : (ByteArray.size ⟨(nameL k).toArray⟩) ≤ 2 := by unfold nameL; split <;> (try split) <;> (try split) <;> simp [ByteArray.size]
    omega
  · simp
theorem first_byte (s : ByteArray) (h : 0 < s.size) : s[0]'h = s.data.toList.headD 0 := by
  have h2 : 0 < s.data.toList.length := by rw [← size_len]; exact h
  cases hl : s.data.toList with
  | nil => rw [hl] at h2; cases h2
  | cons a r =>
    show s.data[0]'_ = a
    have : s.data.toList[0]'h2 = a := by simp [hl]
    simpa using this
theorem IsB.alloc {B b : Nat} {bs : List Value} {w : World} (h : IsB B b bs w) (o : Obj) : IsB B b bs (w.alloc o) := by
  rcases h with ⟨h1, v, h2, h3, h4⟩ | ⟨h1, v, h2, h3, h4⟩
  · exact .inl ⟨h1, v, (Below.heap_alloc w o b (Array.getElem?_eq_some_iff.1 h2).1).trans h2, h3.alloc o, h4⟩
  · exact .inr ⟨h1, v, (Below.heap_alloc w o b (Array.getElem?_eq_some_iff.1 h2).1).trans h2, h3.alloc o, h4⟩
set_option maxRecDepth 100000 in
set_option maxHeartbeats 8000000 in
theorem write.calls (w0 : World) (B b : Nat) : ∀ (k : Nat) (A : Option Addr) (c : Nat) (l : List Tm) (bs : List Value) (W : World), SizeOf.sizeOf l ≤ k → Kd.C k42 w0 A l.length l → l.length ≤ c → Wok l → Below w0.heap.size w0 W → w0.heap.size ≤ B → B ≤ W.heap.size →
      IsB B b bs W → bs.length + (txl none l).length ≤ 131941395333120 →
      Calls Try.prog 115 #[.pointer (some ⟨b, 0, none⟩), .slice A l.length c] W fun e W' =>
        e = .returned (.tuple #[]) ∧ IsB B b (bs ++ Lib.byteCells (txl none l)) W' ∧ Below B W W' := by
  intro k
  induction k with
  | zero => intro A c l bs W hk; cases l <;> simp at hk
  | succ k ih =>
    intro A c l bs W hk hC hc hwok hB hB0 hBW hIs hlen; have hu42 := Try.underlying42; have hmax := Kd.C_max hC; obtain ⟨T, hT⟩ : ∃ T, T = txl none l := ⟨_, rfl⟩; rw [← hT] at hlen ⊢; have HT := Aside0.mk hT; have HC := Aside0.mk hC; have HB := Aside0.mk hB; have HB0 := Aside0.mk hB0; have HBW := Aside0.mk hBW; have HIS := Aside0.mk hIs; have HLEN := Aside0.mk hlen; have HK := Aside0.mk hk; have HOK := Aside0.mk hwok; have IH := Aside0.mk ih; clear hC hB hB0 hBW hIs hlen hk hwok ih hT
    go_enter Try.func115, Try.ntmps115
    go_wp2_with fail
    go_loopw [10] (fun i wr_ => ∃ (q : Nat) (pre : List UInt8), i = .int .i64 q ∧ q ≤ l.length ∧ Aside0 (IsB B b (bs ++ Lib.byteCells pre) wr_) ∧ Aside0 (Below B W wr_) ∧ Aside0 (pre ++ txl (prevK l q) (l.drop q) = T)) (fun i wr_ => l.length - (intOf i).toNat)
    case atStart => exact ⟨0, [], rfl, Nat.zero_le _, ⟨by simpa [Lib.byteCells] using HIS.out⟩, ⟨Below.refl _ _⟩, ⟨by rw [HT.out, List.drop_zero]; rfl⟩⟩
    case round =>
      obtain ⟨q, pre, rfl, hq, HI, HBr, HP⟩ := hrel
      by_cases hlt : q < l.length
      · obtain ⟨ad, A2, c2, rfl, hx0, hx1, hx2, hl2, hr2⟩ := at_T42 HC.out (q : Int) (by omega) (by omega)
        have hrd : rd_T42 l (q : Int) = l[q] := by simp [rd_T42, List.getD_eq_getElem?_getD, List.getElem?_eq_getElem hlt]
        rw [hrd] at hx0 hx1 hx2 hl2 hr2; rw [Int.toNat_natCast] at hx0 hx1 hx2; have hstep := txl_step l q hlt; have hsz := sizeOf_kids' l q hlt
        have hwo := HOK.out l[q] (by
          have := flat_take_prefix l (q + 1); rw [flat_take_succ l q hlt] at this
          exact this.subset (by simp))
        obtain ⟨x, hxx⟩ : ∃ x, l[q] = x := ⟨_, rfl⟩; rw [hxx] at hx0 hx1 hx2 hl2 hr2 hstep hsz hwo; obtain ⟨p, hp⟩ : ∃ p, p = prevK l q := ⟨_, rfl⟩; obtain ⟨lst, hlst⟩ : ∃ b, b = decide (((l.drop (q + 1)).head?.map (·.f0)) ≠ some 1) := ⟨_, rfl⟩; rw [← hp, ← hlst] at hstep; have hbw : Below w0.heap.size w0 wr := HB.out.trans (HBr.out.mono HB0.out); replace hx0 := (hbw.cell (World.block_lt_of_cell? w0 _ hx0)).trans hx0; replace hx1 := (hbw.cell (World.block_lt_of_cell? w0 _ hx1)).trans hx1; replace hx2 := (hbw.cell (World.block_lt_of_cell? w0 _ hx2)).trans hx2
        have hlb : decide ((q : Int) < (l.length : Int)) = true := by simp; omega
        have hq0 : (0 : Int) ≤ (q : Int) := Int.natCast_nonneg _; have HXX := Aside0.mk hxx; have HSTEP := Aside0.mk hstep; have HSZ := Aside0.mk hsz; have HWO := Aside0.mk hwo; have HPP := Aside0.mk hp; have HLST := Aside0.mk hlst; have HBW2 := Aside0.mk hbw
        have HSUB : Aside0 (∀ u, u ∈ flat x.f2 → u ∈ flat l) := ⟨fun u hu => by
          have := flat_take_prefix l (q + 1); rw [flat_take_succ l q hlt] at this; refine this.subset ?_
          rw [hxx]; simp [hu]⟩
        clear hxx hstep hsz hwo hp hlst hbw hrd; have hna := World.alloc_heap_new wr (.cells #[.int .i64 x.f0, .string x.f1, .slice A2 x.f2.length c2] 42); have hba : Below wr.heap.size wr (wr.alloc (.cells #[.int .i64 x.f0, .string x.f1, .slice A2 x.f2.length c2] 42)) := (Below.refl _ wr).alloc (Nat.le_refl _) _; have hS0 : B ≤ wr.heap.size := Nat.le_trans HBW.out HBr.out.size; replace HI := Aside0.mk (IsB.alloc HI.out (.cells #[.int .i64 x.f0, .string x.f1, .slice A2 x.f2.length c2] 42)); obtain ⟨Wa, hWa⟩ : ∃ Wa, wr.alloc (.cells #[.int .i64 x.f0, .string x.f1, .slice A2 x.f2.length c2] 42) = Wa := ⟨_, rfl⟩; have HWa := Aside0.mk hWa; rw [hWa] at hna hba HI; replace HBr := Aside0.mk (HBr.out.trans (hba.mono hS0)); have HS := Aside0.mk (Nat.le_trans hS0 hba.size); have HTB := Aside0.mk hna; have ct0 : Wa.cell? ⟨wr.heap.size, 0, none⟩ = some (.int .i64 x.f0) := (q4 hna 0).trans rfl; have ct1 : Wa.cell? ⟨wr.heap.size, 1, none⟩ = some (.string x.f1) := (q4 hna 1).trans rfl; have ct2 : Wa.cell? ⟨wr.heap.size, 2, none⟩ = some (.slice A2 x.f2.length c2) := (q4 hna 2).trans rfl
        have hpl : bs.length + pre.length ≤ 131941395333120 := by
          have h1 := HP.out; rw [← HPP.out, HSTEP.out] at h1; have h2 := congrArg List.length h1; simp only [List.length_append] at h2; have := HLEN.out; omega
        have hxs : x.f1.size ≤ 1099511627776 := HWO.out.2; clear hna hba hS0 hWa
        go_upto_region 3 with fail
        rw [HWa.out]; clear hx0 hx1 hx2
        by_cases hk1 : x.f0 = 1
        · have e1 : (x.f0 != 1) = false := by simp; exact hk1
          have e10 : (x.f0 == 1) = true := by simp; exact hk1
          obtain ⟨hd0, hhd⟩ : ∃ c, x.f1.data.toList.headD 0 = c := ⟨_, rfl⟩; have hs1 : 0 < x.f1.size := HWO.out.1 hk1
          have hbt : ((x.f1[0]'hs1).toNat : Int) = (hd0.toNat : Int) := by
            rw [← hhd, first_byte x.f1 hs1]
          have hsi : (0 : Int) < (x.f1.size : Int) := by omega
          have hesc := esc_le hd0 39; obtain ⟨sp, hsp⟩ : ∃ sp, sp = spaceL p x.f0 := ⟨_, rfl⟩; have HSP := Aside0.mk hsp; have HHD := Aside0.mk hhd; clear hsp hhd
          by_cases hq1 : q = 0
          · have e40 : ((q : Int) == 0) = true := by first | (simp; done) | (simp; omega)
            have e50 : decide ((0 : Int) < (q : Int)) = false := by first | (simp; done) | (simp; omega)
            have e51 : decide (0 < q) = false := by first | (simp; done) | (simp; omega)
            have hsp0 : sp = [] := by rw [HSP.out, HPP.out]; simp [spaceL, prevK, hq1]
            have HNX : Aside0 (nextB p x.f0 = true) := ⟨by rw [HPP.out]; simp [nextB, prevK, hq1]⟩; clear hq1
            by_cases hq2 : q + 1 = l.length
            · have e60 : ((q : Int) + 1 == (l.length : Int)) = true := by first | (simp; done) | (simp; omega)
              have hlst : lst = true := by rw [HLST.out, List.drop_of_length_le (by omega)]; rfl
              clear hq2; have HTT : Aside0 (txT p lst x = [39] ++ (esc hd0 39 ++ [39])) := ⟨by rw [txT_eq, if_pos hk1, HNX.out, hlst, charL, HHD.out]; rfl⟩; clear hk1 hlst
              go_wp2_with (first | (go_at_call 151; refine (WriteByte.calls B b _ _ _ HI.out (by simp [Lib.byteCells_length, Lib.strCells_length, ByteArray.size_append, size60]; omega) HS.out).mono ?_; rintro e w_ ⟨rfl, hx, hb, hk⟩; replace HI := Aside0.mk (isB_of hx); replace HBr := Aside0.mk (HBr.out.trans hb); replace HS := Aside0.mk (Nat.le_trans HS.out hb.size); replace HTB := Aside0.mk (hk _ _ _ _ (by decide) (by decide) HTB.out); clear ct0 ct1 ct2; have ct0 := (q4 HTB.out 0).trans rfl; have ct1 := (q4 HTB.out 1).trans rfl; have ct2 := (q4 HTB.out 2).trans rfl; (try replace cy := (hb.cell hcy.out).trans cy); clear hx hb hk) | (go_at_call 152; refine (escape39.calls B b _ hd0 _ HI.out (by simp [Lib.byteCells_length, Lib.strCells_length, ByteArray.size_append, size60]; omega) HS.out).mono ?_; rintro e w_ ⟨rfl, hx, hb, hk⟩; replace HI := Aside0.mk hx; replace HBr := Aside0.mk (HBr.out.trans hb); replace HS := Aside0.mk (Nat.le_trans HS.out hb.size); replace HTB := Aside0.mk (hk _ _ _ _ (by decide) (by decide) HTB.out); clear ct0 ct1 ct2; have ct0 := (q4 HTB.out 0).trans rfl; have ct1 := (q4 HTB.out 1).trans rfl; have ct2 := (q4 HTB.out 2).trans rfl; (try replace cy := (hb.cell hcy.out).trans cy); clear hx hb hk) | fail)
              refine ⟨⟨q + 1, pre ++ (sp ++ txT p lst x), by go_num, by omega, ⟨?_⟩, HBr, ⟨?_⟩⟩, by simp [intOf]; omega⟩
              · have h := HI.out; rw [hsp0, HTT.out]
                simpa [Lib.byteCells, Lib.strCells_eq, List.append_assoc] using h
              · rw [← HP.out, ← HPP.out, HSTEP.out, ← HSP.out]; simp [List.append_assoc]
            · have e60 : ((q : Int) + 1 == (l.length : Int)) = false := by first | (simp; done) | (simp; omega)
              obtain ⟨ad', A3, c3, had, hy0, _⟩ := at_T42 HC.out ((q + 1 : Nat) : Int) (by omega) (by omega); obtain rfl : ad = ad' := Option.some.inj had
              have hrdy : rd_T42 l ((q + 1 : Nat) : Int) = l[q + 1]'(by omega) := by unfold rd_T42; rw [List.getD_eq_getElem?_getD, Int.toNat_natCast, List.getElem?_eq_getElem (show q + 1 < l.length by omega)]; rfl
              rw [hrdy, Int.toNat_natCast] at hy0; obtain ⟨y, hyy⟩ : ∃ y, l[q + 1]'(by omega) = y := ⟨_, rfl⟩; rw [hyy] at hy0; have hcy : Aside0 ((ad.add ((q + 1) * 3)).block < B) := ⟨Nat.lt_of_lt_of_le (World.block_lt_of_cell? w0 _ hy0) HB0.out⟩; have cy : Wa.cell? (ad.add ((q + 1) * 3)) = some (.int .i64 y.f0) := ((HB.out.trans (HBr.out.mono HB0.out)).cell (World.block_lt_of_cell? w0 _ hy0)).trans hy0
              have hq3 : (q : Int) + 1 < (l.length : Int) := by omega
              have hwq : IntKind.i64.wrap ((q : Int) + 1) = (q : Int) + 1 := IntWalk.i64_in _ (by omega)
              have hdy : ((l.drop (q + 1)).head?.map (·.f0)) = some y.f0 := by rw [List.drop_eq_getElem_cons (show q + 1 < l.length by omega), hyy]; rfl
              clear hy0 hrdy
              by_cases hy1 : y.f0 = 1
              · have e61 : (y.f0 != 1) = false := by simp; exact hy1
                have hlst : lst = false := by rw [HLST.out, hdy, hy1]; rfl
                clear hy1 hdy hyy hq2; have HTT : Aside0 (txT p lst x = [39] ++ (esc hd0 39 ++ [])) := ⟨by rw [txT_eq, if_pos hk1, HNX.out, hlst, charL, HHD.out]; rfl⟩; clear hk1 hlst
                go_wp2_with (first | (go_at_call 151; refine (WriteByte.calls B b _ _ _ HI.out (by simp [Lib.byteCells_length, Lib.strCells_length, ByteArray.size_append, size60]; omega) HS.out).mono ?_; rintro e w_ ⟨rfl, hx, hb, hk⟩; replace HI := Aside0.mk (isB_of hx); replace HBr := Aside0.mk (HBr.out.trans hb); replace HS := Aside0.mk (Nat.le_trans HS.out hb.size); replace HTB := Aside0.mk (hk _ _ _ _ (by decide) (by decide) HTB.out); clear ct0 ct1 ct2; have ct0 := (q4 HTB.out 0).trans rfl; have ct1 := (q4 HTB.out 1).trans rfl; have ct2 := (q4 HTB.out 2).trans rfl; (try replace cy := (hb.cell hcy.out).trans cy); clear hx hb hk) | (go_at_call 152; refine (escape39.calls B b _ hd0 _ HI.out (by simp [Lib.byteCells_length, Lib.strCells_length, ByteArray.size_append, size60]; omega) HS.out).mono ?_; rintro e w_ ⟨rfl, hx, hb, hk⟩; replace HI := Aside0.mk hx; replace HBr := Aside0.mk (HBr.out.trans hb); replace HS := Aside0.mk (Nat.le_trans HS.out hb.size); replace HTB := Aside0.mk (hk _ _ _ _ (by decide) (by decide) HTB.out); clear ct0 ct1 ct2; have ct0 := (q4 HTB.out 0).trans rfl; have ct1 := (q4 HTB.out 1).trans rfl; have ct2 := (q4 HTB.out 2).trans rfl; (try replace cy := (hb.cell hcy.out).trans cy); clear hx hb hk) | fail)
                refine ⟨⟨q + 1, pre ++ (sp ++ txT p lst x), by go_num, by omega, ⟨?_⟩, HBr, ⟨?_⟩⟩, by simp [intOf]; omega⟩
                · have h := HI.out; rw [hsp0, HTT.out]
                  simpa [Lib.byteCells, Lib.strCells_eq, List.append_assoc] using h
                · rw [← HP.out, ← HPP.out, HSTEP.out, ← HSP.out]; simp [List.append_assoc]
              · have e61 : (y.f0 != 1) = true := by simp; exact hy1
                have hlst : lst = true := by rw [HLST.out, hdy]; simp; exact hy1
                clear hy1 hdy hyy hq2; have HTT : Aside0 (txT p lst x = [39] ++ (esc hd0 39 ++ [39])) := ⟨by rw [txT_eq, if_pos hk1, HNX.out, hlst, charL, HHD.out]; rfl⟩; clear hk1 hlst
                go_wp2_with (first | (go_at_call 151; refine (WriteByte.calls B b _ _ _ HI.out (by simp [Lib.byteCells_length, Lib.strCells_length, ByteArray.size_append, size60]; omega) HS.out).mono ?_; rintro e w_ ⟨rfl, hx, hb, hk⟩; replace HI := Aside0.mk (isB_of hx); replace HBr := Aside0.mk (HBr.out.trans hb); replace HS := Aside0.mk (Nat.le_trans HS.out hb.size); replace HTB := Aside0.mk (hk _ _ _ _ (by decide) (by decide) HTB.out); clear ct0 ct1 ct2; have ct0 := (q4 HTB.out 0).trans rfl; have ct1 := (q4 HTB.out 1).trans rfl; have ct2 := (q4 HTB.out 2).trans rfl; (try replace cy := (hb.cell hcy.out).trans cy); clear hx hb hk) | (go_at_call 152; refine (escape39.calls B b _ hd0 _ HI.out (by simp [Lib.byteCells_length, Lib.strCells_length, ByteArray.size_append, size60]; omega) HS.out).mono ?_; rintro e w_ ⟨rfl, hx, hb, hk⟩; replace HI := Aside0.mk hx; replace HBr := Aside0.mk (HBr.out.trans hb); replace HS := Aside0.mk (Nat.le_trans HS.out hb.size); replace HTB := Aside0.mk (hk _ _ _ _ (by decide) (by decide) HTB.out); clear ct0 ct1 ct2; have ct0 := (q4 HTB.out 0).trans rfl; have ct1 := (q4 HTB.out 1).trans rfl; have ct2 := (q4 HTB.out 2).trans rfl; (try replace cy := (hb.cell hcy.out).trans cy); clear hx hb hk) | fail)
                refine ⟨⟨q + 1, pre ++ (sp ++ txT p lst x), by go_num, by omega, ⟨?_⟩, HBr, ⟨?_⟩⟩, by simp [intOf]; omega⟩
                · have h := HI.out; rw [hsp0, HTT.out]
                  simpa [Lib.byteCells, Lib.strCells_eq, List.append_assoc] using h
                · rw [← HP.out, ← HPP.out, HSTEP.out, ← HSP.out]; simp [List.append_assoc]
          · obtain ⟨q', rfl⟩ : ∃ q', q = q' + 1 := ⟨q - 1, by omega⟩
            have e40 : (((q' + 1 : Nat) : Int) == 0) = false := by first | (simp; done) | (simp; omega)
            have e41 : ((q' : Int) + 1 == 0) = false := by first | (simp; done) | (simp; omega)
            have e50 : decide ((0 : Int) < ((q' + 1 : Nat) : Int)) = true := by first | (simp; done) | (simp; omega)
            have e52 : decide ((0 : Int) < (q' : Int) + 1) = true := by first | (simp; done) | (simp; omega)
            have e51 : decide (0 < q' + 1) = true := by simp
            obtain ⟨ad', A4, c4, had, hz0, _⟩ := at_T42 HC.out (q' : Int) (by omega) (by omega); obtain rfl : ad = ad' := Option.some.inj had
            have hrdz : rd_T42 l (q' : Int) = l[q']'(by omega) := by simp [rd_T42, List.getD_eq_getElem?_getD, List.getElem?_eq_getElem (show q' < l.length by omega)]
            rw [hrdz, Int.toNat_natCast] at hz0; obtain ⟨z, hzz⟩ : ∃ z, l[q']'(by omega) = z := ⟨_, rfl⟩; rw [hzz] at hz0; have cz : Wa.cell? (ad.add (q' * 3)) = some (.int .i64 z.f0) := ((HB.out.trans (HBr.out.mono HB0.out)).cell (World.block_lt_of_cell? w0 _ hz0)).trans hz0
            have hpz : p = some z.f0 := by rw [HPP.out]; unfold prevK; rw [if_neg (by omega), show q' + 1 - 1 = q' by omega, List.getElem?_eq_getElem (show q' < l.length by omega), hzz]; rfl
            have hwz : IntKind.i64.wrap (q' : Int) = (q' : Int) := IntWalk.i64_in _ (by omega)
            have hwz2 : IntKind.i64.wrap ((q' : Int) + 1 - 1) = (q' : Int) := by rw [show (q' : Int) + 1 - 1 = (q' : Int) by omega]; exact hwz
            have hq4 : (q' : Int) < (l.length : Int) := by omega
            have hq5 : (0 : Int) ≤ (q' : Int) := Int.natCast_nonneg _; clear hz0 hrdz hzz hq1
            by_cases hz1 : z.f0 = 1
            · have e42 : (z.f0 != 1) = false := by simp; exact hz1
              have HNX : Aside0 (nextB p x.f0 = false) := ⟨by rw [hpz, hz1, hk1]; rfl⟩
              have hsp0 : sp = [] := by rw [HSP.out]; unfold spaceL; rw [HNX.out]; simp
              clear hz1 hpz
              by_cases hq2 : (q' + 1) + 1 = l.length
              · have e60 : (((q' + 1) : Int) + 1 == (l.length : Int)) = true := by first | (simp; done) | (simp; omega)
                have hlst : lst = true := by rw [HLST.out, List.drop_of_length_le (by omega)]; rfl
                clear hq2; have HTT : Aside0 (txT p lst x = [] ++ (esc hd0 39 ++ [39])) := ⟨by rw [txT_eq, if_pos hk1, HNX.out, hlst, charL, HHD.out]; rfl⟩; clear hk1 hlst
                go_wp2_with (first | (go_at_call 151; refine (WriteByte.calls B b _ _ _ HI.out (by simp [Lib.byteCells_length, Lib.strCells_length, ByteArray.size_append, size60]; omega) HS.out).mono ?_; rintro e w_ ⟨rfl, hx, hb, hk⟩; replace HI := Aside0.mk (isB_of hx); replace HBr := Aside0.mk (HBr.out.trans hb); replace HS := Aside0.mk (Nat.le_trans HS.out hb.size); replace HTB := Aside0.mk (hk _ _ _ _ (by decide) (by decide) HTB.out); clear ct0 ct1 ct2; have ct0 := (q4 HTB.out 0).trans rfl; have ct1 := (q4 HTB.out 1).trans rfl; have ct2 := (q4 HTB.out 2).trans rfl; (try replace cy := (hb.cell hcy.out).trans cy); clear hx hb hk) | (go_at_call 152; refine (escape39.calls B b _ hd0 _ HI.out (by simp [Lib.byteCells_length, Lib.strCells_length, ByteArray.size_append, size60]; omega) HS.out).mono ?_; rintro e w_ ⟨rfl, hx, hb, hk⟩; replace HI := Aside0.mk hx; replace HBr := Aside0.mk (HBr.out.trans hb); replace HS := Aside0.mk (Nat.le_trans HS.out hb.size); replace HTB := Aside0.mk (hk _ _ _ _ (by decide) (by decide) HTB.out); clear ct0 ct1 ct2; have ct0 := (q4 HTB.out 0).trans rfl; have ct1 := (q4 HTB.out 1).trans rfl; have ct2 := (q4 HTB.out 2).trans rfl; (try replace cy := (hb.cell hcy.out).trans cy); clear hx hb hk) | fail)
                refine ⟨⟨(q' + 1) + 1, pre ++ (sp ++ txT p lst x), by go_num, by omega, ⟨?_⟩, HBr, ⟨?_⟩⟩, by simp [intOf]; omega⟩
                · have h := HI.out; rw [hsp0, HTT.out]
                  simpa [Lib.byteCells, Lib.strCells_eq, List.append_assoc] using h
                · rw [← HP.out, ← HPP.out, HSTEP.out, ← HSP.out]; simp [List.append_assoc]
              · have e60 : (((q' + 1) : Int) + 1 == (l.length : Int)) = false := by first | (simp; done) | (simp; omega)
                obtain ⟨ad', A3, c3, had, hy0, _⟩ := at_T42 HC.out (((q' + 1) + 1 : Nat) : Int) (by omega) (by omega); obtain rfl : ad = ad' := Option.some.inj had
                have hrdy : rd_T42 l (((q' + 1) + 1 : Nat) : Int) = l[(q' + 1) + 1]'(by omega) := by unfold rd_T42; rw [List.getD_eq_getElem?_getD, Int.toNat_natCast, List.getElem?_eq_getElem (show (q' + 1) + 1 < l.length by omega)]; rfl
                rw [hrdy, Int.toNat_natCast] at hy0; obtain ⟨y, hyy⟩ : ∃ y, l[(q' + 1) + 1]'(by omega) = y := ⟨_, rfl⟩; rw [hyy] at hy0; have hcy : Aside0 ((ad.add (((q' + 1) + 1) * 3)).block < B) := ⟨Nat.lt_of_lt_of_le (World.block_lt_of_cell? w0 _ hy0) HB0.out⟩; have cy : Wa.cell? (ad.add (((q' + 1) + 1) * 3)) = some (.int .i64 y.f0) := ((HB.out.trans (HBr.out.mono HB0.out)).cell (World.block_lt_of_cell? w0 _ hy0)).trans hy0
                have hq3 : ((q' + 1) : Int) + 1 < (l.length : Int) := by omega
                have hwq : IntKind.i64.wrap (((q' + 1) : Int) + 1) = ((q' + 1) : Int) + 1 := IntWalk.i64_in _ (by omega)
                have hdy : ((l.drop ((q' + 1) + 1)).head?.map (·.f0)) = some y.f0 := by rw [List.drop_eq_getElem_cons (show (q' + 1) + 1 < l.length by omega), hyy]; rfl
                clear hy0 hrdy
                by_cases hy1 : y.f0 = 1
                · have e61 : (y.f0 != 1) = false := by simp; exact hy1
                  have hlst : lst = false := by rw [HLST.out, hdy, hy1]; rfl
                  clear hy1 hdy hyy hq2; have HTT : Aside0 (txT p lst x = [] ++ (esc hd0 39 ++ [])) := ⟨by rw [txT_eq, if_pos hk1, HNX.out, hlst, charL, HHD.out]; rfl⟩; clear hk1 hlst
                  go_wp2_with (first | (go_at_call 151; refine (WriteByte.calls B b _ _ _ HI.out (by simp [Lib.byteCells_length, Lib.strCells_length, ByteArray.size_append, size60]; omega) HS.out).mono ?_; rintro e w_ ⟨rfl, hx, hb, hk⟩; replace HI := Aside0.mk (isB_of hx); replace HBr := Aside0.mk (HBr.out.trans hb); replace HS := Aside0.mk (Nat.le_trans HS.out hb.size); replace HTB := Aside0.mk (hk _ _ _ _ (by decide) (by decide) HTB.out); clear ct0 ct1 ct2; have ct0 := (q4 HTB.out 0).trans rfl; have ct1 := (q4 HTB.out 1).trans rfl; have ct2 := (q4 HTB.out 2).trans rfl; (try replace cy := (hb.cell hcy.out).trans cy); clear hx hb hk) | (go_at_call 152; refine (escape39.calls B b _ hd0 _ HI.out (by simp [Lib.byteCells_length, Lib.strCells_length, ByteArray.size_append, size60]; omega) HS.out).mono ?_; rintro e w_ ⟨rfl, hx, hb, hk⟩; replace HI := Aside0.mk hx; replace HBr := Aside0.mk (HBr.out.trans hb); replace HS := Aside0.mk (Nat.le_trans HS.out hb.size); replace HTB := Aside0.mk (hk _ _ _ _ (by decide) (by decide) HTB.out); clear ct0 ct1 ct2; have ct0 := (q4 HTB.out 0).trans rfl; have ct1 := (q4 HTB.out 1).trans rfl; have ct2 := (q4 HTB.out 2).trans rfl; (try replace cy := (hb.cell hcy.out).trans cy); clear hx hb hk) | fail)
                  refine ⟨⟨(q' + 1) + 1, pre ++ (sp ++ txT p lst x), by go_num, by omega, ⟨?_⟩, HBr, ⟨?_⟩⟩, by simp [intOf]; omega⟩
                  · have h := HI.out; rw [hsp0, HTT.out]
                    simpa [Lib.byteCells, Lib.strCells_eq, List.append_assoc] using h
                  · rw [← HP.out, ← HPP.out, HSTEP.out, ← HSP.out]; simp [List.append_assoc]
                · have e61 : (y.f0 != 1) = true := by simp; exact hy1
                  have hlst : lst = true := by rw [HLST.out, hdy]; simp; exact hy1
                  clear hy1 hdy hyy hq2; have HTT : Aside0 (txT p lst x = [] ++ (esc hd0 39 ++ [39])) := ⟨by rw [txT_eq, if_pos hk1, HNX.out, hlst, charL, HHD.out]; rfl⟩; clear hk1 hlst
                  go_wp2_with (first | (go_at_call 151; refine (WriteByte.calls B b _ _ _ HI.out (by simp [Lib.byteCells_length, Lib.strCells_length, ByteArray.size_append, size60]; omega) HS.out).mono ?_; rintro e w_ ⟨rfl, hx, hb, hk⟩; replace HI := Aside0.mk (isB_of hx); replace HBr := Aside0.mk (HBr.out.trans hb); replace HS := Aside0.mk (Nat.le_trans HS.out hb.size); replace HTB := Aside0.mk (hk _ _ _ _ (by decide) (by decide) HTB.out); clear ct0 ct1 ct2; have ct0 := (q4 HTB.out 0).trans rfl; have ct1 := (q4 HTB.out 1).trans rfl; have ct2 := (q4 HTB.out 2).trans rfl; (try replace cy := (hb.cell hcy.out).trans cy); clear hx hb hk) | (go_at_call 152; refine (escape39.calls B b _ hd0 _ HI.out (by simp [Lib.byteCells_length, Lib.strCells_length, ByteArray.size_append, size60]; omega) HS.out).mono ?_; rintro e w_ ⟨rfl, hx, hb, hk⟩; replace HI := Aside0.mk hx; replace HBr := Aside0.mk (HBr.out.trans hb); replace HS := Aside0.mk (Nat.le_trans HS.out hb.size); replace HTB := Aside0.mk (hk _ _ _ _ (by decide) (by decide) HTB.out); clear ct0 ct1 ct2; have ct0 := (q4 HTB.out 0).trans rfl; have ct1 := (q4 HTB.out 1).trans rfl; have ct2 := (q4 HTB.out 2).trans rfl; (try replace cy := (hb.cell hcy.out).trans cy); clear hx hb hk) | fail)
                  refine ⟨⟨(q' + 1) + 1, pre ++ (sp ++ txT p lst x), by go_num, by omega, ⟨?_⟩, HBr, ⟨?_⟩⟩, by simp [intOf]; omega⟩
                  · have h := HI.out; rw [hsp0, HTT.out]
                    simpa [Lib.byteCells, Lib.strCells_eq, List.append_assoc] using h
                  · rw [← HP.out, ← HPP.out, HSTEP.out, ← HSP.out]; simp [List.append_assoc]
            · have e42 : (z.f0 != 1) = true := by simp; exact hz1
              have HNX : Aside0 (nextB p x.f0 = true) := ⟨by rw [hpz]; simp [nextB]; exact .inr hz1⟩
              have hsp0 : sp = [32] := by rw [HSP.out]; unfold spaceL; rw [HNX.out, hpz]; simp
              clear hz1 hpz
              by_cases hq2 : (q' + 1) + 1 = l.length
              · have e60 : (((q' + 1) : Int) + 1 == (l.length : Int)) = true := by first | (simp; done) | (simp; omega)
                have hlst : lst = true := by rw [HLST.out, List.drop_of_length_le (by omega)]; rfl
                clear hq2; have HTT : Aside0 (txT p lst x = [39] ++ (esc hd0 39 ++ [39])) := ⟨by rw [txT_eq, if_pos hk1, HNX.out, hlst, charL, HHD.out]; rfl⟩; clear hk1 hlst
                go_wp2_with (first | (go_at_call 151; refine (WriteByte.calls B b _ _ _ HI.out (by simp [Lib.byteCells_length, Lib.strCells_length, ByteArray.size_append, size60]; omega) HS.out).mono ?_; rintro e w_ ⟨rfl, hx, hb, hk⟩; replace HI := Aside0.mk (isB_of hx); replace HBr := Aside0.mk (HBr.out.trans hb); replace HS := Aside0.mk (Nat.le_trans HS.out hb.size); replace HTB := Aside0.mk (hk _ _ _ _ (by decide) (by decide) HTB.out); clear ct0 ct1 ct2; have ct0 := (q4 HTB.out 0).trans rfl; have ct1 := (q4 HTB.out 1).trans rfl; have ct2 := (q4 HTB.out 2).trans rfl; (try replace cy := (hb.cell hcy.out).trans cy); clear hx hb hk) | (go_at_call 152; refine (escape39.calls B b _ hd0 _ HI.out (by simp [Lib.byteCells_length, Lib.strCells_length, ByteArray.size_append, size60]; omega) HS.out).mono ?_; rintro e w_ ⟨rfl, hx, hb, hk⟩; replace HI := Aside0.mk hx; replace HBr := Aside0.mk (HBr.out.trans hb); replace HS := Aside0.mk (Nat.le_trans HS.out hb.size); replace HTB := Aside0.mk (hk _ _ _ _ (by decide) (by decide) HTB.out); clear ct0 ct1 ct2; have ct0 := (q4 HTB.out 0).trans rfl; have ct1 := (q4 HTB.out 1).trans rfl; have ct2 := (q4 HTB.out 2).trans rfl; (try replace cy := (hb.cell hcy.out).trans cy); clear hx hb hk) | fail)
                refine ⟨⟨(q' + 1) + 1, pre ++ (sp ++ txT p lst x), by go_num, by omega, ⟨?_⟩, HBr, ⟨?_⟩⟩, by simp [intOf]; omega⟩
                · have h := HI.out; rw [hsp0, HTT.out]
                  simpa [Lib.byteCells, Lib.strCells_eq, List.append_assoc] using h
                · rw [← HP.out, ← HPP.out, HSTEP.out, ← HSP.out]; simp [List.append_assoc]
              · have e60 : (((q' + 1) : Int) + 1 == (l.length : Int)) = false := by first | (simp; done) | (simp; omega)
                obtain ⟨ad', A3, c3, had, hy0, _⟩ := at_T42 HC.out (((q' + 1) + 1 : Nat) : Int) (by omega) (by omega); obtain rfl : ad = ad' := Option.some.inj had
                have hrdy : rd_T42 l (((q' + 1) + 1 : Nat) : Int) = l[(q' + 1) + 1]'(by omega) := by unfold rd_T42; rw [List.getD_eq_getElem?_getD, Int.toNat_natCast, List.getElem?_eq_getElem (show (q' + 1) + 1 < l.length by omega)]; rfl
                rw [hrdy, Int.toNat_natCast] at hy0; obtain ⟨y, hyy⟩ : ∃ y, l[(q' + 1) + 1]'(by omega) = y := ⟨_, rfl⟩; rw [hyy] at hy0; have hcy : Aside0 ((ad.add (((q' + 1) + 1) * 3)).block < B) := ⟨Nat.lt_of_lt_of_le (World.block_lt_of_cell? w0 _ hy0) HB0.out⟩; have cy : Wa.cell? (ad.add (((q' + 1) + 1) * 3)) = some (.int .i64 y.f0) := ((HB.out.trans (HBr.out.mono HB0.out)).cell (World.block_lt_of_cell? w0 _ hy0)).trans hy0
                have hq3 : ((q' + 1) : Int) + 1 < (l.length : Int) := by omega
                have hwq : IntKind.i64.wrap (((q' + 1) : Int) + 1) = ((q' + 1) : Int) + 1 := IntWalk.i64_in _ (by omega)
                have hdy : ((l.drop ((q' + 1) + 1)).head?.map (·.f0)) = some y.f0 := by rw [List.drop_eq_getElem_cons (show (q' + 1) + 1 < l.length by omega), hyy]; rfl
                clear hy0 hrdy
                by_cases hy1 : y.f0 = 1
                · have e61 : (y.f0 != 1) = false := by simp; exact hy1
                  have hlst : lst = false := by rw [HLST.out, hdy, hy1]; rfl
                  clear hy1 hdy hyy hq2; have HTT : Aside0 (txT p lst x = [39] ++ (esc hd0 39 ++ [])) := ⟨by rw [txT_eq, if_pos hk1, HNX.out, hlst, charL, HHD.out]; rfl⟩; clear hk1 hlst
                  go_wp2_with (first | (go_at_call 151; refine (WriteByte.calls B b _ _ _ HI.out (by simp [Lib.byteCells_length, Lib.strCells_length, ByteArray.size_append, size60]; omega) HS.out).mono ?_; rintro e w_ ⟨rfl, hx, hb, hk⟩; replace HI := Aside0.mk (isB_of hx); replace HBr := Aside0.mk (HBr.out.trans hb); replace HS := Aside0.mk (Nat.le_trans HS.out hb.size); replace HTB := Aside0.mk (hk _ _ _ _ (by decide) (by decide) HTB.out); clear ct0 ct1 ct2; have ct0 := (q4 HTB.out 0).trans rfl; have ct1 := (q4 HTB.out 1).trans rfl; have ct2 := (q4 HTB.out 2).trans rfl; (try replace cy := (hb.cell hcy.out).trans cy); clear hx hb hk) | (go_at_call 152; refine (escape39.calls B b _ hd0 _ HI.out (by simp [Lib.byteCells_length, Lib.strCells_length, ByteArray.size_append, size60]; omega) HS.out).mono ?_; rintro e w_ ⟨rfl, hx, hb, hk⟩; replace HI := Aside0.mk hx; replace HBr := Aside0.mk (HBr.out.trans hb); replace HS := Aside0.mk (Nat.le_trans HS.out hb.size); replace HTB := Aside0.mk (hk _ _ _ _ (by decide) (by decide) HTB.out); clear ct0 ct1 ct2; have ct0 := (q4 HTB.out 0).trans rfl; have ct1 := (q4 HTB.out 1).trans rfl; have ct2 := (q4 HTB.out 2).trans rfl; (try replace cy := (hb.cell hcy.out).trans cy); clear hx hb hk) | fail)
                  refine ⟨⟨(q' + 1) + 1, pre ++ (sp ++ txT p lst x), by go_num, by omega, ⟨?_⟩, HBr, ⟨?_⟩⟩, by simp [intOf]; omega⟩
                  · have h := HI.out; rw [hsp0, HTT.out]
                    simpa [Lib.byteCells, Lib.strCells_eq, List.append_assoc] using h
                  · rw [← HP.out, ← HPP.out, HSTEP.out, ← HSP.out]; simp [List.append_assoc]
                · have e61 : (y.f0 != 1) = true := by simp; exact hy1
                  have hlst : lst = true := by rw [HLST.out, hdy]; simp; exact hy1
                  clear hy1 hdy hyy hq2; have HTT : Aside0 (txT p lst x = [39] ++ (esc hd0 39 ++ [39])) := ⟨by rw [txT_eq, if_pos hk1, HNX.out, hlst, charL, HHD.out]; rfl⟩; clear hk1 hlst
                  go_wp2_with (first | (go_at_call 151; refine (WriteByte.calls B b _ _ _ HI.out (by simp [Lib.byteCells_length, Lib.strCells_length, ByteArray.size_append, size60]; omega) HS.out).mono ?_; rintro e w_ ⟨rfl, hx, hb, hk⟩; replace HI := Aside0.mk (isB_of hx); replace HBr := Aside0.mk (HBr.out.trans hb); replace HS := Aside0.mk (Nat.le_trans HS.out hb.size); replace HTB := Aside0.mk (hk _ _ _ _ (by decide) (by decide) HTB.out); clear ct0 ct1 ct2; have ct0 := (q4 HTB.out 0).trans rfl; have ct1 := (q4 HTB.out 1).trans rfl; have ct2 := (q4 HTB.out 2).trans rfl; (try replace cy := (hb.cell hcy.out).trans cy); clear hx hb hk) | (go_at_call 152; refine (escape39.calls B b _ hd0 _ HI.out (by simp [Lib.byteCells_length, Lib.strCells_length, ByteArray.size_append, size60]; omega) HS.out).mono ?_; rintro e w_ ⟨rfl, hx, hb, hk⟩; replace HI := Aside0.mk hx; replace HBr := Aside0.mk (HBr.out.trans hb); replace HS := Aside0.mk (Nat.le_trans HS.out hb.size); replace HTB := Aside0.mk (hk _ _ _ _ (by decide) (by decide) HTB.out); clear ct0 ct1 ct2; have ct0 := (q4 HTB.out 0).trans rfl; have ct1 := (q4 HTB.out 1).trans rfl; have ct2 := (q4 HTB.out 2).trans rfl; (try replace cy := (hb.cell hcy.out).trans cy); clear hx hb hk) | fail)
                  refine ⟨⟨(q' + 1) + 1, pre ++ (sp ++ txT p lst x), by go_num, by omega, ⟨?_⟩, HBr, ⟨?_⟩⟩, by simp [intOf]; omega⟩
                  · have h := HI.out; rw [hsp0, HTT.out]
                    simpa [Lib.byteCells, Lib.strCells_eq, List.append_assoc] using h
                  · rw [← HP.out, ← HPP.out, HSTEP.out, ← HSP.out]; simp [List.append_assoc]
        · have e1 : (x.f0 != 1) = true := by simp; exact hk1
          have e10 : (x.f0 == 1) = false := by simp; exact hk1
          have hnx : nextB p x.f0 = true := by unfold nextB; simp [hk1]
          obtain ⟨sp, hsp⟩ : ∃ sp, sp = spaceL p x.f0 := ⟨_, rfl⟩; have HSP := Aside0.mk hsp; have HNX := Aside0.mk hnx; clear hsp hnx
          by_cases hk2 : x.f0 = 2
          · have e2 : (x.f0 == 2) = true := by simp; exact hk2
            obtain ⟨kk, hid⟩ := (ident_ev (s := x.f1) hxs 60).get
            by_cases hidt : nameS 60 x.f1.data.toList = true
            · rw [hidt] at hid; have HTT : Aside0 (txT p lst x = x.f1.data.toList) := ⟨by rw [txT_eq, if_neg hk1, if_pos hk2, wordL, if_pos hidt]⟩; clear hk1 hk2 hidt
              by_cases hq1 : q = 0
              · have e50 : decide ((0 : Int) < (q : Int)) = false := by first | (simp; done) | (simp; omega)
                have e51 : decide (0 < q) = false := by first | (simp; done) | (simp; omega)
                have hsp0 : sp = [] := by rw [HSP.out, HPP.out]; simp [spaceL, prevK, hq1]
                clear hq1
                go_wp2_with (first | (go_at_call 151; refine (WriteByte.calls B b _ _ _ HI.out (by simp [Lib.byteCells_length, Lib.strCells_length, ByteArray.size_append, size60]; omega) HS.out).mono ?_; rintro e w_ ⟨rfl, hx, hb, hk⟩; replace HI := Aside0.mk (isB_of hx); replace HBr := Aside0.mk (HBr.out.trans hb); replace HS := Aside0.mk (Nat.le_trans HS.out hb.size); replace HTB := Aside0.mk (hk _ _ _ _ (by decide) (by decide) HTB.out); clear ct0 ct1 ct2; have ct0 := (q4 HTB.out 0).trans rfl; have ct1 := (q4 HTB.out 1).trans rfl; have ct2 := (q4 HTB.out 2).trans rfl; (try replace cy := (hb.cell hcy.out).trans cy); clear hx hb hk) | (go_at_call 123; refine (WriteString.calls B b _ _ _ HI.out (by simp [Lib.byteCells_length, Lib.strCells_length, ByteArray.size_append, size60]; omega) HS.out).mono ?_; rintro e w_ ⟨rfl, hx, hb, hk⟩; replace HI := Aside0.mk (isB_of hx); replace HBr := Aside0.mk (HBr.out.trans hb); replace HS := Aside0.mk (Nat.le_trans HS.out hb.size); replace HTB := Aside0.mk (hk _ _ _ _ (by decide) (by decide) HTB.out); clear ct0 ct1 ct2; have ct0 := (q4 HTB.out 0).trans rfl; have ct1 := (q4 HTB.out 1).trans rfl; have ct2 := (q4 HTB.out 2).trans rfl; (try replace cy := (hb.cell hcy.out).trans cy); clear hx hb hk) | (go_at_call 153; refine (term_identifier.calls kk x.f1 60 _ _ hid).mono ?_; rintro e w_ ⟨rfl, hd'⟩; have hb' := below_drawn hd'; have hb := hb'.mono HS.out; have hk := KeepT.below hb'; replace HI := Aside0.mk (IsB.below HI.out hb'); replace HBr := Aside0.mk (HBr.out.trans hb); replace HS := Aside0.mk (Nat.le_trans HS.out hb.size); replace HTB := Aside0.mk (hk _ _ _ _ (by decide) (by decide) HTB.out); clear ct0 ct1 ct2; have ct0 := (q4 HTB.out 0).trans rfl; have ct1 := (q4 HTB.out 1).trans rfl; have ct2 := (q4 HTB.out 2).trans rfl; (try replace cy := (hb.cell hcy.out).trans cy); clear hb hk hb' hd') | fail)
                refine ⟨⟨q + 1, pre ++ (sp ++ txT p lst x), by go_num, by omega, ⟨?_⟩, HBr, ⟨?_⟩⟩, by simp [intOf]; omega⟩
                · have h := HI.out; rw [hsp0, HTT.out]
                  simpa [Lib.byteCells, Lib.strCells_eq, List.append_assoc] using h
                · rw [← HP.out, ← HPP.out, HSTEP.out, ← HSP.out]; simp [List.append_assoc]
              · have e50 : decide ((0 : Int) < (q : Int)) = true := by first | (simp; done) | (simp; omega)
                have e51 : decide (0 < q) = true := by first | (simp; done) | (simp; omega)
                have hsp0 : sp = [32] := by
                  rw [HSP.out]; unfold spaceL; rw [if_pos ⟨by rw [HPP.out]; simp [prevK, hq1]; omega, HNX.out⟩]
                clear hq1
                go_wp2_with (first | (go_at_call 151; refine (WriteByte.calls B b _ _ _ HI.out (by simp [Lib.byteCells_length, Lib.strCells_length, ByteArray.size_append, size60]; omega) HS.out).mono ?_; rintro e w_ ⟨rfl, hx, hb, hk⟩; replace HI := Aside0.mk (isB_of hx); replace HBr := Aside0.mk (HBr.out.trans hb); replace HS := Aside0.mk (Nat.le_trans HS.out hb.size); replace HTB := Aside0.mk (hk _ _ _ _ (by decide) (by decide) HTB.out); clear ct0 ct1 ct2; have ct0 := (q4 HTB.out 0).trans rfl; have ct1 := (q4 HTB.out 1).trans rfl; have ct2 := (q4 HTB.out 2).trans rfl; (try replace cy := (hb.cell hcy.out).trans cy); clear hx hb hk) | (go_at_call 123; refine (WriteString.calls B b _ _ _ HI.out (by simp [Lib.byteCells_length, Lib.strCells_length, ByteArray.size_append, size60]; omega) HS.out).mono ?_; rintro e w_ ⟨rfl, hx, hb, hk⟩; replace HI := Aside0.mk (isB_of hx); replace HBr := Aside0.mk (HBr.out.trans hb); replace HS := Aside0.mk (Nat.le_trans HS.out hb.size); replace HTB := Aside0.mk (hk _ _ _ _ (by decide) (by decide) HTB.out); clear ct0 ct1 ct2; have ct0 := (q4 HTB.out 0).trans rfl; have ct1 := (q4 HTB.out 1).trans rfl; have ct2 := (q4 HTB.out 2).trans rfl; (try replace cy := (hb.cell hcy.out).trans cy); clear hx hb hk) | (go_at_call 153; refine (term_identifier.calls kk x.f1 60 _ _ hid).mono ?_; rintro e w_ ⟨rfl, hd'⟩; have hb' := below_drawn hd'; have hb := hb'.mono HS.out; have hk := KeepT.below hb'; replace HI := Aside0.mk (IsB.below HI.out hb'); replace HBr := Aside0.mk (HBr.out.trans hb); replace HS := Aside0.mk (Nat.le_trans HS.out hb.size); replace HTB := Aside0.mk (hk _ _ _ _ (by decide) (by decide) HTB.out); clear ct0 ct1 ct2; have ct0 := (q4 HTB.out 0).trans rfl; have ct1 := (q4 HTB.out 1).trans rfl; have ct2 := (q4 HTB.out 2).trans rfl; (try replace cy := (hb.cell hcy.out).trans cy); clear hb hk hb' hd') | fail)
                refine ⟨⟨q + 1, pre ++ (sp ++ txT p lst x), by go_num, by omega, ⟨?_⟩, HBr, ⟨?_⟩⟩, by simp [intOf]; omega⟩
                · have h := HI.out; rw [hsp0, HTT.out]
                  simpa [Lib.byteCells, Lib.strCells_eq, List.append_assoc] using h
                · rw [← HP.out, ← HPP.out, HSTEP.out, ← HSP.out]; simp [List.append_assoc]
            · rw [Bool.eq_false_iff.2 hidt] at hid; have HTT : Aside0 (txT p lst x = 34 :: (x.f1.data.toList.flatMap (fun c => esc c 34) ++ [34])) := ⟨by rw [txT_eq, if_neg hk1, if_pos hk2, wordL, if_neg hidt]⟩; clear hk1 hk2 hidt
              by_cases hq1 : q = 0
              · have e50 : decide ((0 : Int) < (q : Int)) = false := by first | (simp; done) | (simp; omega)
                have e51 : decide (0 < q) = false := by first | (simp; done) | (simp; omega)
                have hsp0 : sp = [] := by rw [HSP.out, HPP.out]; simp [spaceL, prevK, hq1]
                clear hq1
                go_wp2_with (first | (go_at_call 151; refine (WriteByte.calls B b _ _ _ HI.out (by simp [Lib.byteCells_length, Lib.strCells_length, ByteArray.size_append, size60]; omega) HS.out).mono ?_; rintro e w_ ⟨rfl, hx, hb, hk⟩; replace HI := Aside0.mk (isB_of hx); replace HBr := Aside0.mk (HBr.out.trans hb); replace HS := Aside0.mk (Nat.le_trans HS.out hb.size); replace HTB := Aside0.mk (hk _ _ _ _ (by decide) (by decide) HTB.out); clear ct0 ct1 ct2; have ct0 := (q4 HTB.out 0).trans rfl; have ct1 := (q4 HTB.out 1).trans rfl; have ct2 := (q4 HTB.out 2).trans rfl; (try replace cy := (hb.cell hcy.out).trans cy); clear hx hb hk) | (go_at_call 153; refine (term_identifier.calls kk x.f1 60 _ _ hid).mono ?_; rintro e w_ ⟨rfl, hd'⟩; have hb' := below_drawn hd'; have hb := hb'.mono HS.out; have hk := KeepT.below hb'; replace HI := Aside0.mk (IsB.below HI.out hb'); replace HBr := Aside0.mk (HBr.out.trans hb); replace HS := Aside0.mk (Nat.le_trans HS.out hb.size); replace HTB := Aside0.mk (hk _ _ _ _ (by decide) (by decide) HTB.out); clear ct0 ct1 ct2; have ct0 := (q4 HTB.out 0).trans rfl; have ct1 := (q4 HTB.out 1).trans rfl; have ct2 := (q4 HTB.out 2).trans rfl; (try replace cy := (hb.cell hcy.out).trans cy); clear hb hk hb' hd') | fail)
                obtain ⟨acc, hal, hIa, haeq⟩ : ∃ acc : List Value, acc.length ≤ bs.length + pre.length + 2 ∧ IsB B b acc w_ ∧ acc = bs ++ Lib.byteCells (pre ++ (sp ++ [34])) := ⟨_, by simp [Lib.byteCells_length]; omega, HI.out, by rw [hsp0]; simp [Lib.byteCells, List.append_assoc]⟩; obtain ⟨tb, htb⟩ : ∃ tb, wr.heap.size = tb := ⟨_, rfl⟩; rw [htb] at HTB ct0 ct1 ct2 ⊢; have HIa := Aside0.mk hIa; have HAEQ := Aside0.mk haeq; clear hIa haeq htb HI
                go_loopw [84] (fun u w3 => ∃ j : Nat, u = .int .i64 j ∧ j ≤ x.f1.size ∧ Aside0 (IsB B b (acc ++ Lib.byteCells ((x.f1.data.toList.take j).flatMap (fun c => esc c 34))) w3) ∧ Aside0 (Below B W w3) ∧ Aside0 (B ≤ w3.heap.size) ∧ w3.heap[tb]? = some (.cells #[.int .i64 x.f0, .string x.f1, .slice A2 x.f2.length c2] 42 (0, 0))) (fun u w3 => x.f1.size - (intOf u).toNat)
                case atStart => exact ⟨0, rfl, Nat.zero_le _, ⟨by simpa [Lib.byteCells] using HIa.out⟩, HBr, HS, HTB.out⟩
                case round =>
                  obtain ⟨j, rfl, hj, HIj, HBj, HSj, htj⟩ := hrel; clear ct0 ct1 ct2 HBr HS HTB HIa; have ct1 := (q4 htj 1).trans rfl; have hfl := flat_le 34 (x.f1.data.toList.take j); rw [List.length_take] at hfl
                  by_cases hjl : j < x.f1.size
                  · have e80 : decide ((j : Int) < (x.f1.size : Int)) = true := decide_eq_true (by omega); have hj0 : (0 : Int) ≤ (j : Int) := Int.natCast_nonneg _
                    have hj1 : (j : Int) < (x.f1.size : Int) := by omega
                    go_wp2_with (first | (go_at_call 152; refine (escape34.calls B b _ _ _ HIj.out (by rw [List.length_append, Lib.byteCells_length]; omega) HSj.out).mono ?_; rintro e w_ ⟨rfl, hx, hb, hk⟩; replace HIj := Aside0.mk hx; replace HBj := Aside0.mk (HBj.out.trans hb); replace HSj := Aside0.mk (Nat.le_trans HSj.out hb.size); have HTj := Aside0.mk (hk _ _ _ _ (by decide) (by decide) htj); clear hx hb hk htj ct1) | fail)
                    go_roundw
                    case rel => exact ⟨j + 1, by go_num, by omega, ⟨by rw [take_flat x.f1 j hjl, Lib.byteCells_append, ← List.append_assoc]; exact HIj.out⟩, HBj, HSj, HTj.out⟩
                    case measure => simp [intOf]; omega
                  · obtain rfl : j = x.f1.size := by omega
                    have e80 : decide ((x.f1.size : Int) < (x.f1.size : Int)) = false := decide_eq_false (by omega)
                    go_wp2_with (first | (go_at_call 151; refine (WriteByte.calls B b _ _ _ HIj.out (by rw [List.length_append, Lib.byteCells_length]; omega) HSj.out).mono ?_; rintro e w_ ⟨rfl, hx, hb, hk⟩; have HI := Aside0.mk (isB_of hx); have HBr := Aside0.mk (HBj.out.trans hb); clear hx hb hk) | fail)
                    refine ⟨⟨q + 1, pre ++ (sp ++ txT p lst x), by go_num, by omega, ⟨?_⟩, HBr, ⟨?_⟩⟩, by simp [intOf]; omega⟩
                    · have h := HI.out; rw [HTT.out]; rw [HAEQ.out, List.take_of_length_le (by rw [← size_len]; exact Nat.le_refl _)] at h
                      simpa [Lib.byteCells, List.append_assoc] using h
                    · rw [← HP.out, ← HPP.out, HSTEP.out, ← HSP.out]; simp [List.append_assoc]
              · have e50 : decide ((0 : Int) < (q : Int)) = true := by first | (simp; done) | (simp; omega)
                have e51 : decide (0 < q) = true := by first | (simp; done) | (simp; omega)
                have hsp0 : sp = [32] := by
                  rw [HSP.out]; unfold spaceL; rw [if_pos ⟨by rw [HPP.out]; simp [prevK, hq1]; omega, HNX.out⟩]
                clear hq1
                go_wp2_with (first | (go_at_call 151; refine (WriteByte.calls B b _ _ _ HI.out (by simp [Lib.byteCells_length, Lib.strCells_length, ByteArray.size_append, size60]; omega) HS.out).mono ?_; rintro e w_ ⟨rfl, hx, hb, hk⟩; replace HI := Aside0.mk (isB_of hx); replace HBr := Aside0.mk (HBr.out.trans hb); replace HS := Aside0.mk (Nat.le_trans HS.out hb.size); replace HTB := Aside0.mk (hk _ _ _ _ (by decide) (by decide) HTB.out); clear ct0 ct1 ct2; have ct0 := (q4 HTB.out 0).trans rfl; have ct1 := (q4 HTB.out 1).trans rfl; have ct2 := (q4 HTB.out 2).trans rfl; (try replace cy := (hb.cell hcy.out).trans cy); clear hx hb hk) | (go_at_call 153; refine (term_identifier.calls kk x.f1 60 _ _ hid).mono ?_; rintro e w_ ⟨rfl, hd'⟩; have hb' := below_drawn hd'; have hb := hb'.mono HS.out; have hk := KeepT.below hb'; replace HI := Aside0.mk (IsB.below HI.out hb'); replace HBr := Aside0.mk (HBr.out.trans hb); replace HS := Aside0.mk (Nat.le_trans HS.out hb.size); replace HTB := Aside0.mk (hk _ _ _ _ (by decide) (by decide) HTB.out); clear ct0 ct1 ct2; have ct0 := (q4 HTB.out 0).trans rfl; have ct1 := (q4 HTB.out 1).trans rfl; have ct2 := (q4 HTB.out 2).trans rfl; (try replace cy := (hb.cell hcy.out).trans cy); clear hb hk hb' hd') | fail)
                obtain ⟨acc, hal, hIa, haeq⟩ : ∃ acc : List Value, acc.length ≤ bs.length + pre.length + 2 ∧ IsB B b acc w_ ∧ acc = bs ++ Lib.byteCells (pre ++ (sp ++ [34])) := ⟨_, by simp [Lib.byteCells_length]; omega, HI.out, by rw [hsp0]; simp [Lib.byteCells, List.append_assoc]⟩; obtain ⟨tb, htb⟩ : ∃ tb, wr.heap.size = tb := ⟨_, rfl⟩; rw [htb] at HTB ct0 ct1 ct2 ⊢; have HIa := Aside0.mk hIa; have HAEQ := Aside0.mk haeq; clear hIa haeq htb HI
                go_loopw [84] (fun u w3 => ∃ j : Nat, u = .int .i64 j ∧ j ≤ x.f1.size ∧ Aside0 (IsB B b (acc ++ Lib.byteCells ((x.f1.data.toList.take j).flatMap (fun c => esc c 34))) w3) ∧ Aside0 (Below B W w3) ∧ Aside0 (B ≤ w3.heap.size) ∧ w3.heap[tb]? = some (.cells #[.int .i64 x.f0, .string x.f1, .slice A2 x.f2.length c2] 42 (0, 0))) (fun u w3 => x.f1.size - (intOf u).toNat)
                case atStart => exact ⟨0, rfl, Nat.zero_le _, ⟨by simpa [Lib.byteCells] using HIa.out⟩, HBr, HS, HTB.out⟩
                case round =>
                  obtain ⟨j, rfl, hj, HIj, HBj, HSj, htj⟩ := hrel; clear ct0 ct1 ct2 HBr HS HTB HIa; have ct1 := (q4 htj 1).trans rfl; have hfl := flat_le 34 (x.f1.data.toList.take j); rw [List.length_take] at hfl
                  by_cases hjl : j < x.f1.size
                  · have e80 : decide ((j : Int) < (x.f1.size : Int)) = true := decide_eq_true (by omega); have hj0 : (0 : Int) ≤ (j : Int) := Int.natCast_nonneg _
                    have hj1 : (j : Int) < (x.f1.size : Int) := by omega
                    go_wp2_with (first | (go_at_call 152; refine (escape34.calls B b _ _ _ HIj.out (by rw [List.length_append, Lib.byteCells_length]; omega) HSj.out).mono ?_; rintro e w_ ⟨rfl, hx, hb, hk⟩; replace HIj := Aside0.mk hx; replace HBj := Aside0.mk (HBj.out.trans hb); replace HSj := Aside0.mk (Nat.le_trans HSj.out hb.size); have HTj := Aside0.mk (hk _ _ _ _ (by decide) (by decide) htj); clear hx hb hk htj ct1) | fail)
                    go_roundw
                    case rel => exact ⟨j + 1, by go_num, by omega, ⟨by rw [take_flat x.f1 j hjl, Lib.byteCells_append, ← List.append_assoc]; exact HIj.out⟩, HBj, HSj, HTj.out⟩
                    case measure => simp [intOf]; omega
                  · obtain rfl : j = x.f1.size := by omega
                    have e80 : decide ((x.f1.size : Int) < (x.f1.size : Int)) = false := decide_eq_false (by omega)
                    go_wp2_with (first | (go_at_call 151; refine (WriteByte.calls B b _ _ _ HIj.out (by rw [List.length_append, Lib.byteCells_length]; omega) HSj.out).mono ?_; rintro e w_ ⟨rfl, hx, hb, hk⟩; have HI := Aside0.mk (isB_of hx); have HBr := Aside0.mk (HBj.out.trans hb); clear hx hb hk) | fail)
                    refine ⟨⟨q + 1, pre ++ (sp ++ txT p lst x), by go_num, by omega, ⟨?_⟩, HBr, ⟨?_⟩⟩, by simp [intOf]; omega⟩
                    · have h := HI.out; rw [HTT.out]; rw [HAEQ.out, List.take_of_length_le (by rw [← size_len]; exact Nat.le_refl _)] at h
                      simpa [Lib.byteCells, List.append_assoc] using h
                    · rw [← HP.out, ← HPP.out, HSTEP.out, ← HSP.out]; simp [List.append_assoc]
          · by_cases hk3 : x.f0 = 3
            · have e3 : (x.f0 == 3) = true := by simp; exact hk3
              have e2 : (x.f0 == 2) = false := by first | (simp; done) | (simp; omega)
              have HTT : Aside0 (txT p lst x = x.f1.data.toList) := ⟨by rw [txT_eq, if_neg hk1, if_neg (by omega), if_pos hk3]⟩; clear hk1 hk3
              by_cases hq1 : q = 0
              · have e50 : decide ((0 : Int) < (q : Int)) = false := by first | (simp; done) | (simp; omega)
                have e51 : decide (0 < q) = false := by first | (simp; done) | (simp; omega)
                have hsp0 : sp = [] := by rw [HSP.out, HPP.out]; simp [spaceL, prevK, hq1]
                clear hq1
                go_wp2_with (first | (go_at_call 151; refine (WriteByte.calls B b _ _ _ HI.out (by simp [Lib.byteCells_length, Lib.strCells_length, ByteArray.size_append, size60]; omega) HS.out).mono ?_; rintro e w_ ⟨rfl, hx, hb, hk⟩; replace HI := Aside0.mk (isB_of hx); replace HBr := Aside0.mk (HBr.out.trans hb); replace HS := Aside0.mk (Nat.le_trans HS.out hb.size); replace HTB := Aside0.mk (hk _ _ _ _ (by decide) (by decide) HTB.out); clear ct0 ct1 ct2; have ct0 := (q4 HTB.out 0).trans rfl; have ct1 := (q4 HTB.out 1).trans rfl; have ct2 := (q4 HTB.out 2).trans rfl; (try replace cy := (hb.cell hcy.out).trans cy); clear hx hb hk) | (go_at_call 123; refine (WriteString.calls B b _ _ _ HI.out (by simp [Lib.byteCells_length, Lib.strCells_length, ByteArray.size_append, size60]; omega) HS.out).mono ?_; rintro e w_ ⟨rfl, hx, hb, hk⟩; replace HI := Aside0.mk (isB_of hx); replace HBr := Aside0.mk (HBr.out.trans hb); replace HS := Aside0.mk (Nat.le_trans HS.out hb.size); replace HTB := Aside0.mk (hk _ _ _ _ (by decide) (by decide) HTB.out); clear ct0 ct1 ct2; have ct0 := (q4 HTB.out 0).trans rfl; have ct1 := (q4 HTB.out 1).trans rfl; have ct2 := (q4 HTB.out 2).trans rfl; (try replace cy := (hb.cell hcy.out).trans cy); clear hx hb hk) | fail)
                refine ⟨⟨q + 1, pre ++ (sp ++ txT p lst x), by go_num, by omega, ⟨?_⟩, HBr, ⟨?_⟩⟩, by simp [intOf]; omega⟩
                · have h := HI.out; rw [hsp0, HTT.out]
                  simpa [Lib.byteCells, Lib.strCells_eq, List.append_assoc] using h
                · rw [← HP.out, ← HPP.out, HSTEP.out, ← HSP.out]; simp [List.append_assoc]
              · have e50 : decide ((0 : Int) < (q : Int)) = true := by first | (simp; done) | (simp; omega)
                have e51 : decide (0 < q) = true := by first | (simp; done) | (simp; omega)
                have hsp0 : sp = [32] := by
                  rw [HSP.out]; unfold spaceL; rw [if_pos ⟨by rw [HPP.out]; simp [prevK, hq1]; omega, HNX.out⟩]
                clear hq1
                go_wp2_with (first | (go_at_call 151; refine (WriteByte.calls B b _ _ _ HI.out (by simp [Lib.byteCells_length, Lib.strCells_length, ByteArray.size_append, size60]; omega) HS.out).mono ?_; rintro e w_ ⟨rfl, hx, hb, hk⟩; replace HI := Aside0.mk (isB_of hx); replace HBr := Aside0.mk (HBr.out.trans hb); replace HS := Aside0.mk (Nat.le_trans HS.out hb.size); replace HTB := Aside0.mk (hk _ _ _ _ (by decide) (by decide) HTB.out); clear ct0 ct1 ct2; have ct0 := (q4 HTB.out 0).trans rfl; have ct1 := (q4 HTB.out 1).trans rfl; have ct2 := (q4 HTB.out 2).trans rfl; (try replace cy := (hb.cell hcy.out).trans cy); clear hx hb hk) | (go_at_call 123; refine (WriteString.calls B b _ _ _ HI.out (by simp [Lib.byteCells_length, Lib.strCells_length, ByteArray.size_append, size60]; omega) HS.out).mono ?_; rintro e w_ ⟨rfl, hx, hb, hk⟩; replace HI := Aside0.mk (isB_of hx); replace HBr := Aside0.mk (HBr.out.trans hb); replace HS := Aside0.mk (Nat.le_trans HS.out hb.size); replace HTB := Aside0.mk (hk _ _ _ _ (by decide) (by decide) HTB.out); clear ct0 ct1 ct2; have ct0 := (q4 HTB.out 0).trans rfl; have ct1 := (q4 HTB.out 1).trans rfl; have ct2 := (q4 HTB.out 2).trans rfl; (try replace cy := (hb.cell hcy.out).trans cy); clear hx hb hk) | fail)
                refine ⟨⟨q + 1, pre ++ (sp ++ txT p lst x), by go_num, by omega, ⟨?_⟩, HBr, ⟨?_⟩⟩, by simp [intOf]; omega⟩
                · have h := HI.out; rw [hsp0, HTT.out]
                  simpa [Lib.byteCells, Lib.strCells_eq, List.append_assoc] using h
                · rw [← HP.out, ← HPP.out, HSTEP.out, ← HSP.out]; simp [List.append_assoc]
            · by_cases hk4 : x.f0 = 4
              · have e4 : (x.f0 == 4) = true := by simp; exact hk4
                have e2 : (x.f0 == 2) = false := by first | (simp; done) | (simp; omega)
                have e3 : (x.f0 == 3) = false := by first | (simp; done) | (simp; omega)
                have HTT : Aside0 (txT p lst x = 40 :: (txl none x.f2 ++ [41])) := ⟨by rw [txT_eq, if_neg hk1, if_neg (by omega), if_neg (by omega), if_pos hk4]⟩; have HOKK : Aside0 (Wok x.f2) := ⟨fun u hu => HOK.out u (HSUB.out u hu)⟩
                have HKL : Aside0 (bs.length + pre.length + sp.length + (txT p lst x).length ≤ 131941395333120) := ⟨by
                  have h1 := HP.out; rw [← HPP.out, HSTEP.out, ← HSP.out] at h1; have h2 := congrArg List.length h1; simp only [List.length_append] at h2
                  have := HLEN.out; omega⟩
                rw [HTT.out] at HKL; simp only [List.length_cons, List.length_append, List.length_nil] at HKL; clear hk1 hk4
                by_cases hq1 : q = 0
                · have e50 : decide ((0 : Int) < (q : Int)) = false := by first | (simp; done) | (simp; omega)
                  have e51 : decide (0 < q) = false := by first | (simp; done) | (simp; omega)
                  have hsp0 : sp = [] := by rw [HSP.out, HPP.out]; simp [spaceL, prevK, hq1]
                  clear hq1; rw [hsp0] at HKL
                  go_wp2_with (first | (go_at_call 151; refine (WriteByte.calls B b _ _ _ HI.out (by simp [Lib.byteCells_length, Lib.strCells_length, ByteArray.size_append, size60]; omega) HS.out).mono ?_; rintro e w_ ⟨rfl, hx, hb, hk⟩; replace HI := Aside0.mk (isB_of hx); replace HBr := Aside0.mk (HBr.out.trans hb); replace HS := Aside0.mk (Nat.le_trans HS.out hb.size); replace HTB := Aside0.mk (hk _ _ _ _ (by decide) (by decide) HTB.out); clear ct0 ct1 ct2; have ct0 := (q4 HTB.out 0).trans rfl; have ct1 := (q4 HTB.out 1).trans rfl; have ct2 := (q4 HTB.out 2).trans rfl; (try replace cy := (hb.cell hcy.out).trans cy); clear hx hb hk) | (go_at_call 115; refine (IH.out A2 c2 x.f2 _ _ (by have := HSZ.out; have := HK.out; omega) hr2 hl2 HOKK.out (HB.out.trans (HBr.out.mono HB0.out)) HB0.out HS.out HI.out (by have := HKL.out; have := size_len x.f1; simp [Lib.byteCells_length, Lib.strCells_length, ByteArray.size_append, size60]; omega)).mono ?_; rintro e w_ ⟨rfl, hx, hb⟩; replace HI := Aside0.mk hx; replace HBr := Aside0.mk (HBr.out.trans hb); replace HS := Aside0.mk (Nat.le_trans HS.out hb.size); clear ct0 ct1 ct2 hx hb) | (go_at_call 151; refine (WriteByte.calls B b _ _ _ HI.out (by have := HKL.out; have := size_len x.f1; simp [Lib.byteCells_length, Lib.strCells_length, ByteArray.size_append, size60]; omega) HS.out).mono ?_; rintro e w_ ⟨rfl, hx, hb, hk⟩; replace HI := Aside0.mk (isB_of hx); replace HBr := Aside0.mk (HBr.out.trans hb); replace HS := Aside0.mk (Nat.le_trans HS.out hb.size); clear hx hb hk) | fail)
                  refine ⟨⟨q + 1, pre ++ (sp ++ txT p lst x), by go_num, by omega, ⟨?_⟩, HBr, ⟨?_⟩⟩, by simp [intOf]; omega⟩
                  · have h := HI.out; rw [hsp0, HTT.out]
                    simpa [Lib.byteCells, Lib.strCells_eq, List.append_assoc] using h
                  · rw [← HP.out, ← HPP.out, HSTEP.out, ← HSP.out]; simp [List.append_assoc]
                · have e50 : decide ((0 : Int) < (q : Int)) = true := by first | (simp; done) | (simp; omega)
                  have e51 : decide (0 < q) = true := by first | (simp; done) | (simp; omega)
                  have hsp0 : sp = [32] := by
                    rw [HSP.out]; unfold spaceL; rw [if_pos ⟨by rw [HPP.out]; simp [prevK, hq1]; omega, HNX.out⟩]
                  clear hq1; rw [hsp0] at HKL
                  go_wp2_with (first | (go_at_call 151; refine (WriteByte.calls B b _ _ _ HI.out (by simp [Lib.byteCells_length, Lib.strCells_length, ByteArray.size_append, size60]; omega) HS.out).mono ?_; rintro e w_ ⟨rfl, hx, hb, hk⟩; replace HI := Aside0.mk (isB_of hx); replace HBr := Aside0.mk (HBr.out.trans hb); replace HS := Aside0.mk (Nat.le_trans HS.out hb.size); replace HTB := Aside0.mk (hk _ _ _ _ (by decide) (by decide) HTB.out); clear ct0 ct1 ct2; have ct0 := (q4 HTB.out 0).trans rfl; have ct1 := (q4 HTB.out 1).trans rfl; have ct2 := (q4 HTB.out 2).trans rfl; (try replace cy := (hb.cell hcy.out).trans cy); clear hx hb hk) | (go_at_call 115; refine (IH.out A2 c2 x.f2 _ _ (by have := HSZ.out; have := HK.out; omega) hr2 hl2 HOKK.out (HB.out.trans (HBr.out.mono HB0.out)) HB0.out HS.out HI.out (by have := HKL.out; have := size_len x.f1; simp [Lib.byteCells_length, Lib.strCells_length, ByteArray.size_append, size60]; omega)).mono ?_; rintro e w_ ⟨rfl, hx, hb⟩; replace HI := Aside0.mk hx; replace HBr := Aside0.mk (HBr.out.trans hb); replace HS := Aside0.mk (Nat.le_trans HS.out hb.size); clear ct0 ct1 ct2 hx hb) | (go_at_call 151; refine (WriteByte.calls B b _ _ _ HI.out (by have := HKL.out; have := size_len x.f1; simp [Lib.byteCells_length, Lib.strCells_length, ByteArray.size_append, size60]; omega) HS.out).mono ?_; rintro e w_ ⟨rfl, hx, hb, hk⟩; replace HI := Aside0.mk (isB_of hx); replace HBr := Aside0.mk (HBr.out.trans hb); replace HS := Aside0.mk (Nat.le_trans HS.out hb.size); clear hx hb hk) | fail)
                  refine ⟨⟨q + 1, pre ++ (sp ++ txT p lst x), by go_num, by omega, ⟨?_⟩, HBr, ⟨?_⟩⟩, by simp [intOf]; omega⟩
                  · have h := HI.out; rw [hsp0, HTT.out]
                    simpa [Lib.byteCells, Lib.strCells_eq, List.append_assoc] using h
                  · rw [← HP.out, ← HPP.out, HSTEP.out, ← HSP.out]; simp [List.append_assoc]
              · by_cases hk8 : x.f0 = 8
                · have e8 : (x.f0 == 8) = true := by simp; exact hk8
                  have e2 : (x.f0 == 2) = false := by first | (simp; done) | (simp; omega)
                  have e3 : (x.f0 == 3) = false := by first | (simp; done) | (simp; omega)
                  have e4 : (x.f0 == 4) = false := by first | (simp; done) | (simp; omega)
                  have hadd : ∀ W, (Op.stringOp .add ⟨#[60]⟩ x.f1).run Try.prog W = .ok (.string (⟨#[60]⟩ ++ x.f1)) W := fun W => run_string_add_sum W _ _ (by rw [show (ByteArray.size ⟨#[60]⟩) = 1 from rfl]; omega)
                  have HOKK : Aside0 (Wok x.f2) := ⟨fun u hu => HOK.out u (HSUB.out u hu)⟩
                  by_cases hkid : 0 < x.f2.length
                  · have e70 : decide ((0 : Int) < (x.f2.length : Int)) = true := decide_eq_true (by omega); have e71 : decide (0 < x.f2.length) = true := decide_eq_true (by omega); have HTT : Aside0 (txT p lst x = 60 :: (x.f1.data.toList ++ ([32] ++ (txl none x.f2 ++ [62])))) := ⟨by rw [txT_eq, if_neg hk1, if_neg (by omega), if_neg (by omega), if_neg (by omega), if_pos hk8, if_pos hkid]⟩
                    have HKL : Aside0 (bs.length + pre.length + sp.length + (txT p lst x).length ≤ 131941395333120) := ⟨by
                      have h1 := HP.out; rw [← HPP.out, HSTEP.out, ← HSP.out] at h1; have h2 := congrArg List.length h1; simp only [List.length_append] at h2
                      have := HLEN.out; omega⟩
                    rw [HTT.out] at HKL; simp only [List.length_cons, List.length_append, List.length_nil] at HKL; clear hk1 hk8 hkid
                    by_cases hq1 : q = 0
                    · have e50 : decide ((0 : Int) < (q : Int)) = false := by first | (simp; done) | (simp; omega)
                      have e51 : decide (0 < q) = false := by first | (simp; done) | (simp; omega)
                      have hsp0 : sp = [] := by rw [HSP.out, HPP.out]; simp [spaceL, prevK, hq1]
                      clear hq1; rw [hsp0] at HKL
                      go_wp2_with (first | (go_at_call 151; refine (WriteByte.calls B b _ _ _ HI.out (by simp [Lib.byteCells_length, Lib.strCells_length, ByteArray.size_append, size60]; omega) HS.out).mono ?_; rintro e w_ ⟨rfl, hx, hb, hk⟩; replace HI := Aside0.mk (isB_of hx); replace HBr := Aside0.mk (HBr.out.trans hb); replace HS := Aside0.mk (Nat.le_trans HS.out hb.size); replace HTB := Aside0.mk (hk _ _ _ _ (by decide) (by decide) HTB.out); clear ct0 ct1 ct2; have ct0 := (q4 HTB.out 0).trans rfl; have ct1 := (q4 HTB.out 1).trans rfl; have ct2 := (q4 HTB.out 2).trans rfl; (try replace cy := (hb.cell hcy.out).trans cy); clear hx hb hk) | (go_at_call 123; refine (WriteString.calls B b _ _ _ HI.out (by simp [Lib.byteCells_length, Lib.strCells_length, ByteArray.size_append, size60]; omega) HS.out).mono ?_; rintro e w_ ⟨rfl, hx, hb, hk⟩; replace HI := Aside0.mk (isB_of hx); replace HBr := Aside0.mk (HBr.out.trans hb); replace HS := Aside0.mk (Nat.le_trans HS.out hb.size); replace HTB := Aside0.mk (hk _ _ _ _ (by decide) (by decide) HTB.out); clear ct0 ct1 ct2; have ct0 := (q4 HTB.out 0).trans rfl; have ct1 := (q4 HTB.out 1).trans rfl; have ct2 := (q4 HTB.out 2).trans rfl; (try replace cy := (hb.cell hcy.out).trans cy); clear hx hb hk) | (go_at_call 115; refine (IH.out A2 c2 x.f2 _ _ (by have := HSZ.out; have := HK.out; omega) hr2 hl2 HOKK.out (HB.out.trans (HBr.out.mono HB0.out)) HB0.out HS.out HI.out (by have := HKL.out; have := size_len x.f1; simp [Lib.byteCells_length, Lib.strCells_length, ByteArray.size_append, size60]; omega)).mono ?_; rintro e w_ ⟨rfl, hx, hb⟩; replace HI := Aside0.mk hx; replace HBr := Aside0.mk (HBr.out.trans hb); replace HS := Aside0.mk (Nat.le_trans HS.out hb.size); clear ct0 ct1 ct2 hx hb) | (go_at_call 151; refine (WriteByte.calls B b _ _ _ HI.out (by have := HKL.out; have := size_len x.f1; simp [Lib.byteCells_length, Lib.strCells_length, ByteArray.size_append, size60]; omega) HS.out).mono ?_; rintro e w_ ⟨rfl, hx, hb, hk⟩; replace HI := Aside0.mk (isB_of hx); replace HBr := Aside0.mk (HBr.out.trans hb); replace HS := Aside0.mk (Nat.le_trans HS.out hb.size); clear hx hb hk) | fail)
                      refine ⟨⟨q + 1, pre ++ (sp ++ txT p lst x), by go_num, by omega, ⟨?_⟩, HBr, ⟨?_⟩⟩, by simp [intOf]; omega⟩
                      · have h := HI.out; rw [hsp0, HTT.out]
                        simpa [Lib.byteCells, Lib.strCells_eq, List.append_assoc] using h
                      · rw [← HP.out, ← HPP.out, HSTEP.out, ← HSP.out]; simp [List.append_assoc]
                    · have e50 : decide ((0 : Int) < (q : Int)) = true := by first | (simp; done) | (simp; omega)
                      have e51 : decide (0 < q) = true := by first | (simp; done) | (simp; omega)
                      have hsp0 : sp = [32] := by
                        rw [HSP.out]; unfold spaceL; rw [if_pos ⟨by rw [HPP.out]; simp [prevK, hq1]; omega, HNX.out⟩]
                      clear hq1; rw [hsp0] at HKL
                      go_wp2_with (first | (go_at_call 151; refine (WriteByte.calls B b _ _ _ HI.out (by simp [Lib.byteCells_length, Lib.strCells_length, ByteArray.size_append, size60]; omega) HS.out).mono ?_; rintro e w_ ⟨rfl, hx, hb, hk⟩; replace HI := Aside0.mk (isB_of hx); replace HBr := Aside0.mk (HBr.out.trans hb); replace HS := Aside0.mk (Nat.le_trans HS.out hb.size); replace HTB := Aside0.mk (hk _ _ _ _ (by decide) (by decide) HTB.out); clear ct0 ct1 ct2; have ct0 := (q4 HTB.out 0).trans rfl; have ct1 := (q4 HTB.out 1).trans rfl; have ct2 := (q4 HTB.out 2).trans rfl; (try replace cy := (hb.cell hcy.out).trans cy); clear hx hb hk) | (go_at_call 123; refine (WriteString.calls B b _ _ _ HI.out (by simp [Lib.byteCells_length, Lib.strCells_length, ByteArray.size_append, size60]; omega) HS.out).mono ?_; rintro e w_ ⟨rfl, hx, hb, hk⟩; replace HI := Aside0.mk (isB_of hx); replace HBr := Aside0.mk (HBr.out.trans hb); replace HS := Aside0.mk (Nat.le_trans HS.out hb.size); replace HTB := Aside0.mk (hk _ _ _ _ (by decide) (by decide) HTB.out); clear ct0 ct1 ct2; have ct0 := (q4 HTB.out 0).trans rfl; have ct1 := (q4 HTB.out 1).trans rfl; have ct2 := (q4 HTB.out 2).trans rfl; (try replace cy := (hb.cell hcy.out).trans cy); clear hx hb hk) | (go_at_call 115; refine (IH.out A2 c2 x.f2 _ _ (by have := HSZ.out; have := HK.out; omega) hr2 hl2 HOKK.out (HB.out.trans (HBr.out.mono HB0.out)) HB0.out HS.out HI.out (by have := HKL.out; have := size_len x.f1; simp [Lib.byteCells_length, Lib.strCells_length, ByteArray.size_append, size60]; omega)).mono ?_; rintro e w_ ⟨rfl, hx, hb⟩; replace HI := Aside0.mk hx; replace HBr := Aside0.mk (HBr.out.trans hb); replace HS := Aside0.mk (Nat.le_trans HS.out hb.size); clear ct0 ct1 ct2 hx hb) | (go_at_call 151; refine (WriteByte.calls B b _ _ _ HI.out (by have := HKL.out; have := size_len x.f1; simp [Lib.byteCells_length, Lib.strCells_length, ByteArray.size_append, size60]; omega) HS.out).mono ?_; rintro e w_ ⟨rfl, hx, hb, hk⟩; replace HI := Aside0.mk (isB_of hx); replace HBr := Aside0.mk (HBr.out.trans hb); replace HS := Aside0.mk (Nat.le_trans HS.out hb.size); clear hx hb hk) | fail)
                      refine ⟨⟨q + 1, pre ++ (sp ++ txT p lst x), by go_num, by omega, ⟨?_⟩, HBr, ⟨?_⟩⟩, by simp [intOf]; omega⟩
                      · have h := HI.out; rw [hsp0, HTT.out]
                        simpa [Lib.byteCells, Lib.strCells_eq, List.append_assoc] using h
                      · rw [← HP.out, ← HPP.out, HSTEP.out, ← HSP.out]; simp [List.append_assoc]
                  · have e70 : decide ((0 : Int) < (x.f2.length : Int)) = false := decide_eq_false (by omega); have e71 : decide (0 < x.f2.length) = false := decide_eq_false (by omega); have HTT : Aside0 (txT p lst x = 60 :: (x.f1.data.toList ++ ([] ++ (txl none x.f2 ++ [62])))) := ⟨by rw [txT_eq, if_neg hk1, if_neg (by omega), if_neg (by omega), if_neg (by omega), if_pos hk8, if_neg hkid]⟩
                    have HKL : Aside0 (bs.length + pre.length + sp.length + (txT p lst x).length ≤ 131941395333120) := ⟨by
                      have h1 := HP.out; rw [← HPP.out, HSTEP.out, ← HSP.out] at h1; have h2 := congrArg List.length h1; simp only [List.length_append] at h2
                      have := HLEN.out; omega⟩
                    rw [HTT.out] at HKL; simp only [List.length_cons, List.length_append, List.length_nil] at HKL; clear hk1 hk8 hkid
                    by_cases hq1 : q = 0
                    · have e50 : decide ((0 : Int) < (q : Int)) = false := by first | (simp; done) | (simp; omega)
                      have e51 : decide (0 < q) = false := by first | (simp; done) | (simp; omega)
                      have hsp0 : sp = [] := by rw [HSP.out, HPP.out]; simp [spaceL, prevK, hq1]
                      clear hq1; rw [hsp0] at HKL
                      go_wp2_with (first | (go_at_call 151; refine (WriteByte.calls B b _ _ _ HI.out (by simp [Lib.byteCells_length, Lib.strCells_length, ByteArray.size_append, size60]; omega) HS.out).mono ?_; rintro e w_ ⟨rfl, hx, hb, hk⟩; replace HI := Aside0.mk (isB_of hx); replace HBr := Aside0.mk (HBr.out.trans hb); replace HS := Aside0.mk (Nat.le_trans HS.out hb.size); replace HTB := Aside0.mk (hk _ _ _ _ (by decide) (by decide) HTB.out); clear ct0 ct1 ct2; have ct0 := (q4 HTB.out 0).trans rfl; have ct1 := (q4 HTB.out 1).trans rfl; have ct2 := (q4 HTB.out 2).trans rfl; (try replace cy := (hb.cell hcy.out).trans cy); clear hx hb hk) | (go_at_call 123; refine (WriteString.calls B b _ _ _ HI.out (by simp [Lib.byteCells_length, Lib.strCells_length, ByteArray.size_append, size60]; omega) HS.out).mono ?_; rintro e w_ ⟨rfl, hx, hb, hk⟩; replace HI := Aside0.mk (isB_of hx); replace HBr := Aside0.mk (HBr.out.trans hb); replace HS := Aside0.mk (Nat.le_trans HS.out hb.size); replace HTB := Aside0.mk (hk _ _ _ _ (by decide) (by decide) HTB.out); clear ct0 ct1 ct2; have ct0 := (q4 HTB.out 0).trans rfl; have ct1 := (q4 HTB.out 1).trans rfl; have ct2 := (q4 HTB.out 2).trans rfl; (try replace cy := (hb.cell hcy.out).trans cy); clear hx hb hk) | (go_at_call 115; refine (IH.out A2 c2 x.f2 _ _ (by have := HSZ.out; have := HK.out; omega) hr2 hl2 HOKK.out (HB.out.trans (HBr.out.mono HB0.out)) HB0.out HS.out HI.out (by have := HKL.out; have := size_len x.f1; simp [Lib.byteCells_length, Lib.strCells_length, ByteArray.size_append, size60]; omega)).mono ?_; rintro e w_ ⟨rfl, hx, hb⟩; replace HI := Aside0.mk hx; replace HBr := Aside0.mk (HBr.out.trans hb); replace HS := Aside0.mk (Nat.le_trans HS.out hb.size); clear ct0 ct1 ct2 hx hb) | (go_at_call 151; refine (WriteByte.calls B b _ _ _ HI.out (by have := HKL.out; have := size_len x.f1; simp [Lib.byteCells_length, Lib.strCells_length, ByteArray.size_append, size60]; omega) HS.out).mono ?_; rintro e w_ ⟨rfl, hx, hb, hk⟩; replace HI := Aside0.mk (isB_of hx); replace HBr := Aside0.mk (HBr.out.trans hb); replace HS := Aside0.mk (Nat.le_trans HS.out hb.size); clear hx hb hk) | fail)
                      refine ⟨⟨q + 1, pre ++ (sp ++ txT p lst x), by go_num, by omega, ⟨?_⟩, HBr, ⟨?_⟩⟩, by simp [intOf]; omega⟩
                      · have h := HI.out; rw [hsp0, HTT.out]
                        simpa [Lib.byteCells, Lib.strCells_eq, List.append_assoc] using h
                      · rw [← HP.out, ← HPP.out, HSTEP.out, ← HSP.out]; simp [List.append_assoc]
                    · have e50 : decide ((0 : Int) < (q : Int)) = true := by first | (simp; done) | (simp; omega)
                      have e51 : decide (0 < q) = true := by first | (simp; done) | (simp; omega)
                      have hsp0 : sp = [32] := by
                        rw [HSP.out]; unfold spaceL; rw [if_pos ⟨by rw [HPP.out]; simp [prevK, hq1]; omega, HNX.out⟩]
                      clear hq1; rw [hsp0] at HKL
                      go_wp2_with (first | (go_at_call 151; refine (WriteByte.calls B b _ _ _ HI.out (by simp [Lib.byteCells_length, Lib.strCells_length, ByteArray.size_append, size60]; omega) HS.out).mono ?_; rintro e w_ ⟨rfl, hx, hb, hk⟩; replace HI := Aside0.mk (isB_of hx); replace HBr := Aside0.mk (HBr.out.trans hb); replace HS := Aside0.mk (Nat.le_trans HS.out hb.size); replace HTB := Aside0.mk (hk _ _ _ _ (by decide) (by decide) HTB.out); clear ct0 ct1 ct2; have ct0 := (q4 HTB.out 0).trans rfl; have ct1 := (q4 HTB.out 1).trans rfl; have ct2 := (q4 HTB.out 2).trans rfl; (try replace cy := (hb.cell hcy.out).trans cy); clear hx hb hk) | (go_at_call 123; refine (WriteString.calls B b _ _ _ HI.out (by simp [Lib.byteCells_length, Lib.strCells_length, ByteArray.size_append, size60]; omega) HS.out).mono ?_; rintro e w_ ⟨rfl, hx, hb, hk⟩; replace HI := Aside0.mk (isB_of hx); replace HBr := Aside0.mk (HBr.out.trans hb); replace HS := Aside0.mk (Nat.le_trans HS.out hb.size); replace HTB := Aside0.mk (hk _ _ _ _ (by decide) (by decide) HTB.out); clear ct0 ct1 ct2; have ct0 := (q4 HTB.out 0).trans rfl; have ct1 := (q4 HTB.out 1).trans rfl; have ct2 := (q4 HTB.out 2).trans rfl; (try replace cy := (hb.cell hcy.out).trans cy); clear hx hb hk) | (go_at_call 115; refine (IH.out A2 c2 x.f2 _ _ (by have := HSZ.out; have := HK.out; omega) hr2 hl2 HOKK.out (HB.out.trans (HBr.out.mono HB0.out)) HB0.out HS.out HI.out (by have := HKL.out; have := size_len x.f1; simp [Lib.byteCells_length, Lib.strCells_length, ByteArray.size_append, size60]; omega)).mono ?_; rintro e w_ ⟨rfl, hx, hb⟩; replace HI := Aside0.mk hx; replace HBr := Aside0.mk (HBr.out.trans hb); replace HS := Aside0.mk (Nat.le_trans HS.out hb.size); clear ct0 ct1 ct2 hx hb) | (go_at_call 151; refine (WriteByte.calls B b _ _ _ HI.out (by have := HKL.out; have := size_len x.f1; simp [Lib.byteCells_length, Lib.strCells_length, ByteArray.size_append, size60]; omega) HS.out).mono ?_; rintro e w_ ⟨rfl, hx, hb, hk⟩; replace HI := Aside0.mk (isB_of hx); replace HBr := Aside0.mk (HBr.out.trans hb); replace HS := Aside0.mk (Nat.le_trans HS.out hb.size); clear hx hb hk) | fail)
                      refine ⟨⟨q + 1, pre ++ (sp ++ txT p lst x), by go_num, by omega, ⟨?_⟩, HBr, ⟨?_⟩⟩, by simp [intOf]; omega⟩
                      · have h := HI.out; rw [hsp0, HTT.out]
                        simpa [Lib.byteCells, Lib.strCells_eq, List.append_assoc] using h
                      · rw [← HP.out, ← HPP.out, HSTEP.out, ← HSP.out]; simp [List.append_assoc]
                · have e2 : (x.f0 == 2) = false := by first | (simp; done) | (simp; omega)
                  have e3 : (x.f0 == 3) = false := by first | (simp; done) | (simp; omega)
                  have e4 : (x.f0 == 4) = false := by first | (simp; done) | (simp; omega)
                  have e8 : (x.f0 == 8) = false := by first | (simp; done) | (simp; omega)
                  have HTT : Aside0 (txT p lst x = (nameB x.f0 x.f1).data.toList) := ⟨by rw [txT_eq, if_neg hk1, if_neg (by omega), if_neg (by omega), if_neg (by omega), if_neg (by omega)]⟩; clear hk1; have hnl : (nameB x.f0 x.f1).size ≤ x.f1.size + 2 := nameB_le _ _
                  by_cases hq1 : q = 0
                  · have e50 : decide ((0 : Int) < (q : Int)) = false := by first | (simp; done) | (simp; omega)
                    have e51 : decide (0 < q) = false := by first | (simp; done) | (simp; omega)
                    have hsp0 : sp = [] := by rw [HSP.out, HPP.out]; simp [spaceL, prevK, hq1]
                    clear hq1
                    go_wp2_with (first | (go_at_call 151; refine (WriteByte.calls B b _ _ _ HI.out (by simp [Lib.byteCells_length, Lib.strCells_length, ByteArray.size_append, size60]; omega) HS.out).mono ?_; rintro e w_ ⟨rfl, hx, hb, hk⟩; replace HI := Aside0.mk (isB_of hx); replace HBr := Aside0.mk (HBr.out.trans hb); replace HS := Aside0.mk (Nat.le_trans HS.out hb.size); replace HTB := Aside0.mk (hk _ _ _ _ (by decide) (by decide) HTB.out); clear ct0 ct1 ct2; have ct0 := (q4 HTB.out 0).trans rfl; have ct1 := (q4 HTB.out 1).trans rfl; have ct2 := (q4 HTB.out 2).trans rfl; (try replace cy := (hb.cell hcy.out).trans cy); clear hx hb hk) | (go_at_call 123; refine (WriteString.calls B b _ _ _ HI.out (by simp [Lib.byteCells_length, Lib.strCells_length, ByteArray.size_append, size60]; omega) HS.out).mono ?_; rintro e w_ ⟨rfl, hx, hb, hk⟩; replace HI := Aside0.mk (isB_of hx); replace HBr := Aside0.mk (HBr.out.trans hb); replace HS := Aside0.mk (Nat.le_trans HS.out hb.size); replace HTB := Aside0.mk (hk _ _ _ _ (by decide) (by decide) HTB.out); clear ct0 ct1 ct2; have ct0 := (q4 HTB.out 0).trans rfl; have ct1 := (q4 HTB.out 1).trans rfl; have ct2 := (q4 HTB.out 2).trans rfl; (try replace cy := (hb.cell hcy.out).trans cy); clear hx hb hk) | (go_at_call 59; refine (Name.calls x.f0 x.f1 A2 c2 x.f2 _ (Kd.C_below hr2 (HB.out.trans (HBr.out.mono HB0.out))) hl2 (by omega)).mono ?_; rintro e w_ ⟨rfl, hb'⟩; have hb := hb'.mono HS.out; have hk := KeepT.below hb'; replace HI := Aside0.mk (IsB.below HI.out hb'); replace HBr := Aside0.mk (HBr.out.trans hb); replace HS := Aside0.mk (Nat.le_trans HS.out hb.size); replace HTB := Aside0.mk (hk _ _ _ _ (by decide) (by decide) HTB.out); clear ct0 ct1 ct2; have ct0 := (q4 HTB.out 0).trans rfl; have ct1 := (q4 HTB.out 1).trans rfl; have ct2 := (q4 HTB.out 2).trans rfl; (try replace cy := (hb.cell hcy.out).trans cy); clear hb hk hb') | fail)
                    refine ⟨⟨q + 1, pre ++ (sp ++ txT p lst x), by go_num, by omega, ⟨?_⟩, HBr, ⟨?_⟩⟩, by simp [intOf]; omega⟩
                    · have h := HI.out; rw [hsp0, HTT.out]
                      simpa [Lib.byteCells, Lib.strCells_eq, List.append_assoc] using h
                    · rw [← HP.out, ← HPP.out, HSTEP.out, ← HSP.out]; simp [List.append_assoc]
                  · have e50 : decide ((0 : Int) < (q : Int)) = true := by first | (simp; done) | (simp; omega)
                    have e51 : decide (0 < q) = true := by first | (simp; done) | (simp; omega)
                    have hsp0 : sp = [32] := by
                      rw [HSP.out]; unfold spaceL; rw [if_pos ⟨by rw [HPP.out]; simp [prevK, hq1]; omega, HNX.out⟩]
                    clear hq1
                    go_wp2_with (first | (go_at_call 151; refine (WriteByte.calls B b _ _ _ HI.out (by simp [Lib.byteCells_length, Lib.strCells_length, ByteArray.size_append, size60]; omega) HS.out).mono ?_; rintro e w_ ⟨rfl, hx, hb, hk⟩; replace HI := Aside0.mk (isB_of hx); replace HBr := Aside0.mk (HBr.out.trans hb); replace HS := Aside0.mk (Nat.le_trans HS.out hb.size); replace HTB := Aside0.mk (hk _ _ _ _ (by decide) (by decide) HTB.out); clear ct0 ct1 ct2; have ct0 := (q4 HTB.out 0).trans rfl; have ct1 := (q4 HTB.out 1).trans rfl; have ct2 := (q4 HTB.out 2).trans rfl; (try replace cy := (hb.cell hcy.out).trans cy); clear hx hb hk) | (go_at_call 123; refine (WriteString.calls B b _ _ _ HI.out (by simp [Lib.byteCells_length, Lib.strCells_length, ByteArray.size_append, size60]; omega) HS.out).mono ?_; rintro e w_ ⟨rfl, hx, hb, hk⟩; replace HI := Aside0.mk (isB_of hx); replace HBr := Aside0.mk (HBr.out.trans hb); replace HS := Aside0.mk (Nat.le_trans HS.out hb.size); replace HTB := Aside0.mk (hk _ _ _ _ (by decide) (by decide) HTB.out); clear ct0 ct1 ct2; have ct0 := (q4 HTB.out 0).trans rfl; have ct1 := (q4 HTB.out 1).trans rfl; have ct2 := (q4 HTB.out 2).trans rfl; (try replace cy := (hb.cell hcy.out).trans cy); clear hx hb hk) | (go_at_call 59; refine (Name.calls x.f0 x.f1 A2 c2 x.f2 _ (Kd.C_below hr2 (HB.out.trans (HBr.out.mono HB0.out))) hl2 (by omega)).mono ?_; rintro e w_ ⟨rfl, hb'⟩; have hb := hb'.mono HS.out; have hk := KeepT.below hb'; replace HI := Aside0.mk (IsB.below HI.out hb'); replace HBr := Aside0.mk (HBr.out.trans hb); replace HS := Aside0.mk (Nat.le_trans HS.out hb.size); replace HTB := Aside0.mk (hk _ _ _ _ (by decide) (by decide) HTB.out); clear ct0 ct1 ct2; have ct0 := (q4 HTB.out 0).trans rfl; have ct1 := (q4 HTB.out 1).trans rfl; have ct2 := (q4 HTB.out 2).trans rfl; (try replace cy := (hb.cell hcy.out).trans cy); clear hb hk hb') | fail)
                    refine ⟨⟨q + 1, pre ++ (sp ++ txT p lst x), by go_num, by omega, ⟨?_⟩, HBr, ⟨?_⟩⟩, by simp [intOf]; omega⟩
                    · have h := HI.out; rw [hsp0, HTT.out]
                      simpa [Lib.byteCells, Lib.strCells_eq, List.append_assoc] using h
                    · rw [← HP.out, ← HPP.out, HSTEP.out, ← HSP.out]; simp [List.append_assoc]
      · obtain rfl : q = l.length := by omega
        have hlb : decide ((l.length : Int) < (l.length : Int)) = false := by simp
        go_wp2_with fail
        go_end0
        exact ⟨rfl, by have h := HP.out; rw [List.drop_length, txl_nil, List.append_nil] at h; rw [← h]; exact HI.out, HBr.out⟩
end Go.Proofs.Ytjhjhhibbmligaa.TE
