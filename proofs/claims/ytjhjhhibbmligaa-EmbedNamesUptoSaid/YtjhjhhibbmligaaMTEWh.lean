/- whistle, and the two closures. -/
import Derived.Test.YtjhjhhibbmligaaMTEIx
import Derived.Test.YtjhjhhibbmligaaMTENp
import Derived.Test.YtjhjhhibbmligaaMTEPi7
import Derived.Test.YtjhjhhibbmligaaMTEParts4
import Derived.Test.YtjhjhhibbmligaaMTEPa
import Derived.RangeFuncNested
import Derived.OwnWalkIn
import Derived.TacticsInMore
import Derived.LoopNIn
import Derived.LoopIn
import Derived.Test.YtjhjhhibbmligaaMTENd
import Derived.Test.YtjhjhhibbmligaaMTERs
section
namespace Go.Proofs.Ytjhjhhibbmligaa.TE
open Go.RowKit Go.Shelf Go.Proofs.YtjhjhhibbmligaaW.PrintWords Go.Proofs.YtjhjhhibbmligaaW.PrintLast Go.Proofs.YtjhjhhibbmligaaW.PrintMore Go.Proofs.Ytjhjhhibbmligaa.Evs
set_option linter.unusedVariables false
set_option linter.unusedSimpArgs false
theorem zeroSt (w : World) : (zeroValue 9).run Try.prog w = .ok (.string ⟨#[]⟩) w := by kernel_rfl
theorem isKey_int {k : Int} : MapKept.IsKey (.int .i64) (.int .i64 k) := by simp [MapKept.IsKey]
theorem TR.lower {W : World} {base base' : Nat} {ok : Nat → Prop} {v : Value} {l : List Tm} (h : TR W base ok v l) (hb : base' ≤ base) : TR W base' ok v l := by
  obtain ⟨xs, ho, hr⟩ := h.own; exact ⟨h.1, xs, own_weaken ho hb, hr⟩
def m1 (z : ByteArray) : Array MapEntry := #[{ key := .int .i64 1, val := .string z, born := 0 }]
def m2 (z y : ByteArray) : Array MapEntry := #[{ key := .int .i64 1, val := .string z, born := 0 }, { key := .int .i64 2, val := .string y, born := 1 }]
def m3 (z y x : ByteArray) : Array MapEntry := #[{ key := .int .i64 1, val := .string z, born := 0 }, { key := .int .i64 2, val := .string y, born := 1 }, { key := .int .i64 3, val := .string x, born := 2 }]
theorem lit1 (w : World) (z : ByteArray) : (Instr.mapUpdate 123 (.map (some w.heap.size)) (.int .i64 1) (.string z)).run Try.prog (w.alloc (.map #[] 0)) = .ok () (w.alloc (.map (m1 z) 1)) := by
  have h := Hand.run_mapUpdate_new (P := Try.prog) (t := 123) (key := .int .i64 1) Try.underlying123 Try.underlying3 isKey_int (MapKept.heap_alloc w (.map #[] 0)).1 (.string z) (by rfl); rw [h, Hand.putObj_alloc]; rfl
theorem lit2 (w : World) (z y : ByteArray) : (Instr.mapUpdate 123 (.map (some w.heap.size)) (.int .i64 2) (.string y)).run Try.prog (w.alloc (.map (m1 z) 1)) = .ok () (w.alloc (.map (m2 z y) 2)) := by
  have h := Hand.run_mapUpdate_new (P := Try.prog) (t := 123) (key := .int .i64 2) Try.underlying123 Try.underlying3 isKey_int (MapKept.heap_alloc w (.map (m1 z) 1)).1 (.string y) (by rfl); rw [h, Hand.putObj_alloc]; rfl
theorem lit3 (w : World) (z y x : ByteArray) : (Instr.mapUpdate 123 (.map (some w.heap.size)) (.int .i64 3) (.string x)).run Try.prog (w.alloc (.map (m2 z y) 2)) = .ok () (w.alloc (.map (m3 z y x) 3)) := by
  have h := Hand.run_mapUpdate_new (P := Try.prog) (t := 123) (key := .int .i64 3) Try.underlying123 Try.underlying3 isKey_int (MapKept.heap_alloc w (.map (m2 z y) 2)).1 (.string x) (by rfl); rw [h, Hand.putObj_alloc]; rfl
theorem litL (w : World) (z y x : ByteArray) (k : Int) : ∃ s, (Instr.lookup 123 (.map (some w.heap.size)) (.int .i64 k) false).run Try.prog (w.alloc (.map (m3 z y x) 3)) = .ok (.string s) (w.alloc (.map (m3 z y x) 3)) := by
  have hb := (MapKept.heap_alloc w (.map (m3 z y x) 3)).1
  have hk : ∀ e ∈ (m3 z y x).toList, MapKept.IsKey (.int .i64) e.key := by
    intro e he; simp only [m3, List.mem_cons, List.not_mem_nil, or_false] at he
    rcases he with rfl | rfl | rfl <;> exact isKey_int
  rcases MapKept.findNow_spec (isKey_int (k := k)) (m3 z y x).toList 0 hk with ⟨h1, _⟩ | ⟨j, e, h1, h2, _⟩
  · exact ⟨⟨#[]⟩, Hand.run_lookup_plain (key := .int .i64 k) (r := none) Try.underlying123 Try.underlying3 isKey_int hb (zeroSt _) h1⟩
  · have hm : e ∈ (m3 z y x).toList := List.mem_of_getElem? h2
    obtain ⟨s, hs⟩ : ∃ s, e.val = .string s := by
      simp only [m3, List.mem_cons, List.not_mem_nil, or_false] at hm
      rcases hm with rfl | rfl | rfl <;> exact ⟨_, rfl⟩
    refine ⟨s, ?_⟩; rw [hs] at h1; exact Hand.run_lookup_plain (key := .int .i64 k) (r := some (0 + j, .string s)) Try.underlying123 Try.underlying3 isKey_int hb (zeroSt _) h1
set_option maxRecDepth 100000 in
set_option maxHeartbeats 4000000 in
theorem renamed.calls : ∀ (k : Nat) (A : Option Addr) (c : Nat) (l : List Tm) (W : World), SizeOf.sizeOf l ≤ k → Kd.C k42 W A l.length l → l.length ≤ c → bk42s l ≤ 1048576 →
    Calls Try.prog 38 #[.slice A l.length c] W fun e W' => ∃ v l', e = .returned v ∧ TR W' W.heap.size (fun k => W.heap.size ≤ k) v l' ∧ Ren l l' ∧ Below W.heap.size W W' := by
  intro k
  induction k with
  | zero => intro A c l W hk; cases l <;> simp at hk
  | succ k ih =>
    intro A c l W hk hC hc hb; have hu42 := Try.underlying42; have hmax := Kd.C_max hC; have HC := Aside0.mk hC; have HK := Aside0.mk hk; have HBK := Aside0.mk hb; clear hC hk hb
    go_enter Try.func38, Try.ntmps38
    go_wp2_with fail
    go_loopw [3, 9] (fun vo i wr => ∃ (q : Nat) (out : List Tm), i = .int .i64 q ∧ q ≤ l.length ∧ Aside0 (Ren (l.take q) out) ∧ Aside0 (TR wr W.heap.size (fun k => W.heap.size ≤ k) vo out) ∧ Aside0 (Below W.heap.size W wr)) (fun vo i wr => l.length - (intOf i).toNat)
    case atStart => exact ⟨0, [], rfl, Nat.zero_le _, ⟨.nil⟩, ⟨TR.nil _ _ _⟩, ⟨Below.refl _ _⟩⟩
    case round =>
      obtain ⟨q, out, rfl, hq, HR, HT, HBr⟩ := hrel
      by_cases hlt : q < l.length
      · obtain ⟨ad, A2, c2, rfl, hx0, hx1, hx2, hl2, hr2⟩ := at_T42 HC.out (q : Int) (by omega) (by omega)
        have hrd : rd_T42 l (q : Int) = l[q] := by simp [rd_T42, List.getD_eq_getElem?_getD, List.getElem?_eq_getElem hlt]
        rw [hrd] at hx0 hx1 hx2 hl2 hr2; rw [Int.toNat_natCast] at hx0 hx1 hx2; have hsz := sizeOf_kids' l q hlt; have hbm := bk_mem (List.getElem_mem hlt); have htk := List.take_succ_eq_append_getElem hlt; obtain ⟨x, hxx⟩ : ∃ x, l[q] = x := ⟨_, rfl⟩; rw [hxx] at hx0 hx1 hx2 hl2 hr2 hsz hbm htk; replace hx0 := (HBr.out.cell (World.block_lt_of_cell? W _ hx0)).trans hx0; replace hx1 := (HBr.out.cell (World.block_lt_of_cell? W _ hx1)).trans hx1; replace hx2 := (HBr.out.cell (World.block_lt_of_cell? W _ hx2)).trans hx2
        have hlb : decide ((q : Int) < (l.length : Int)) = true := by simp; omega
        obtain ⟨bt, hbt⟩ : ∃ bt, bt = wr.heap.size := ⟨_, rfl⟩; obtain ⟨Wt, hWt⟩ : ∃ Wt, Wt = wr.alloc (.cells #[.int .i64 x.f0, .string x.f1, .slice A2 x.f2.length c2] 42) := ⟨_, rfl⟩
        have hkt : Wt.heap[bt]? = some (.cells #[.int .i64 x.f0, .string x.f1, .slice A2 x.f2.length c2] 42 (0, 0)) := by rw [hWt, hbt]; exact World.alloc_heap_new wr _
        have hbwt : Below wr.heap.size wr Wt := by rw [hWt]; exact (Below.refl _ _).alloc (Nat.le_refl _) _
        have hcall := fun (W' : World) (h : Below Wt.heap.size Wt W') => ih A2 c2 x.f2 W' (by have := HK.out; omega) (Kd.C_below hr2 (q12 HBr.out (hbwt.trans (h.mono hbwt.size)))) hl2 (by have := HBK.out; omega)
        have HWT := Aside0.mk hWt; have HBT := Aside0.mk hbt; have HKT := Aside0.mk hkt; have HBWT := Aside0.mk hbwt; have HCALL := Aside0.mk hcall; have HX := Aside0.mk hxx; have HL2 := Aside0.mk hl2; have HR2 := Aside0.mk hr2; have HBM := Aside0.mk hbm; have HTK := Aside0.mk htk; clear hWt hbt hkt hbwt hcall hxx hl2 hr2 hsz hbm htk hrd ih
        go_upto_region 5 with fail
        rw [← HWT.out, ← HBT.out]; have r0 : Wt.cell? ⟨bt, 0, none⟩ = some (.int .i64 x.f0) := (q4 HKT.out 0).trans rfl; have r1 : Wt.cell? ⟨bt, 1, none⟩ = some (.string x.f1) := (q4 HKT.out 1).trans rfl; have r2 : Wt.cell? ⟨bt, 2, none⟩ = some (.slice A2 x.f2.length c2) := (q4 HKT.out 2).trans rfl
        go_cut [6] (fun v6 wx => Aside0 (∃ bx v2 l2, v6 = .pointer (some ⟨bx, 0, none⟩) ∧ Wt.heap.size ≤ bx ∧ wx.heap[bx]? = some (.cells #[.int .i64 x.f0, .string x.f1, v2] 42 (0, 0)) ∧ TR wx Wt.heap.size (fun k => Wt.heap.size ≤ k ∧ k ≠ bx) v2 l2 ∧ Ren x.f2 l2 ∧ Below Wt.heap.size Wt wx))
        case first =>
          go_region_held3 (fun W' => Below Wt.heap.size Wt W' ∧ W'.cell? ⟨bt, 0, none⟩ = some (.int .i64 x.f0) ∧ W'.cell? ⟨bt, 1, none⟩ = some (.string x.f1) ∧ W'.cell? ⟨bt, 2, none⟩ = some (.slice A2 x.f2.length c2))
            ((go_split_ands; (refine (fun (h : Below Wt.heap.size Wt _) => ⟨h, pw_cell_below h r0, pw_cell_below h r1, pw_cell_below h r2⟩) ?_); first | exact HB5.out | exact below_al HB5.out _ | exact below3' HB5.out (Nat.le_refl _) | exact below3' (below_al HB5.out _) HB5.out.size | (repeat (first | assumption | exact Below.refl _ _ | with_reducible refine below_al ?_ _ | with_reducible refine below_dr ?_))))
            (first | (go_at_call 38; go_split_ands; have HBB := Aside0.mk (show Below Wt.heap.size Wt _ by assumption); refine (HCALL.out _ HBB.out).mono ?_; rintro e w4 ⟨v2, l2, rfl, hT4, hR4, hb4⟩; obtain ⟨A4, c4, rfl, hc4⟩ := hT4.slice; have HT4 := Aside0.mk hT4; have HC4 := Aside0.mk hc4; have HR4 := Aside0.mk hR4; have HB4 := Aside0.mk hb4; have HB5 : Aside0 (Below Wt.heap.size Wt w4) := ⟨q12 HBB.out hb4⟩; (try (have hz : w4.heap[Wt.heap.size]? = some (.cells #[.int .i64 0, .string ⟨#[]⟩, .slice none 0 0] 42 (0, 0)) := (hb4.block Wt.heap.size (by show _ < (Wt.alloc _).heap.size; simp)).trans (World.alloc_heap_new Wt _); have z0 : w4.cell? ⟨Wt.heap.size, 0, none⟩ = some (.int .i64 0) := (q4 hz 0).trans rfl; have z1 : w4.cell? ⟨Wt.heap.size, 1, none⟩ = some (.string ⟨#[]⟩) := (q4 hz 1).trans rfl; have z2 : w4.cell? ⟨Wt.heap.size, 2, none⟩ = some (.slice none 0 0) := (q4 hz 2).trans rfl; have zf0 := q11 hz 0; have zf1 := q11 hz 1; have zf2 := q11 hz 2; have HZ := Aside0.mk hz; clear hz)); clear hT4 hR4 hb4 hc4))
          · go_wp2
            go_meet
            case rel => exact ⟨⟨w4.heap.size, _, l2, rfl, HB5.out.size, World.alloc_heap_new w4 _, (((HT4.out.bound).mono (fun k h => ⟨h.1, fun e => by have := h.2; omega⟩)).step (fun k h hl => Below.heap_alloc _ _ k hl)), HR4.out, below_al HB5.out _⟩⟩
          · go_wp2
            go_meet
            case rel => exact ⟨⟨Wt.heap.size, _, l2, rfl, Nat.le_refl _, blk3 HZ.out, ((((HT4.out.bound).lower (base' := Wt.heap.size) (by show Wt.heap.size ≤ (Wt.alloc _).heap.size; simp)).mono (fun k h => ⟨Nat.le_trans (by show Wt.heap.size ≤ (Wt.alloc _).heap.size; simp) h.1, fun e => by have h1 : (Wt.alloc _).heap.size ≤ k := h.1; rw [World.size_alloc] at h1; omega⟩)).step (fun k h hl => oth3 h.2)), HR4.out, below3' HB5.out (Nat.le_refl _)⟩⟩
        case rest =>
          obtain ⟨bx, v2, l2, rfl, hbx, hkx, hTx, hRx, hbw⟩ := hcut.out; obtain ⟨A4, c4, rfl, hc4⟩ := hTx.slice; have hktc := q13 HKT.out hbw; have hxl : bx < wc.heap.size := blk_lt hkx; have y0 : wc.cell? ⟨bt, 0, none⟩ = some (.int .i64 x.f0) := (q4 hktc 0).trans rfl; have HKX := Aside0.mk hkx; have HTX := Aside0.mk hTx; have HRX := Aside0.mk hRx; have HBW := Aside0.mk hbw; have HKTC := Aside0.mk hktc; clear hcut hkx hTx hRx hbw hktc r0 r1 r2
          go_upto_if 23 with (fail)
          go_cut [] (fun wx => Aside0 (∃ s', wx.heap[bx]? = some (.cells #[.int .i64 x.f0, .string s', .slice A4 l2.length c4] 42 (0, 0)) ∧ (x.f0 = 8 → x.f1 = s') ∧ TR wx Wt.heap.size (fun k => Wt.heap.size ≤ k ∧ k ≠ bx) (.slice A4 l2.length c4) l2 ∧ Below Wt.heap.size Wt wx))
          case first =>
            by_cases h8 : x.f0 = 8
            · have e8 : (x.f0 != 8) = false := by simp [h8]
              have e8' : (x.f0 == 8) = true := by simp [h8]
              clear h8
              go_wp2_with fail
              go_meet
              case rel => exact ⟨⟨_, HKX.out, fun _ => rfl, HTX.out, HBW.out⟩⟩
            · have e8 : (x.f0 != 8) = true := by simp [h8]
              have e8' : (x.f0 == 8) = false := by simp [h8]
              have g1 := lit1 wc ⟨#[122]⟩; have g2 := lit2 wc ⟨#[122]⟩ ⟨#[79, 116, 104, 101, 114]⟩; have g3 := lit3 wc ⟨#[122]⟩ ⟨#[79, 116, 104, 101, 114]⟩ ⟨#[55]⟩; obtain ⟨s, gs⟩ := litL wc ⟨#[122]⟩ ⟨#[79, 116, 104, 101, 114]⟩ ⟨#[55]⟩ x.f0; obtain ⟨Wm, hWm⟩ : ∃ Wm, Wm = wc.alloc (.map (m3 ⟨#[122]⟩ ⟨#[79, 116, 104, 101, 114]⟩ ⟨#[55]⟩) 3) := ⟨_, rfl⟩; rw [← hWm] at g3 gs
              have hbm : Below wc.heap.size wc Wm := by rw [hWm]; exact (Below.refl _ _).alloc (Nat.le_refl _) _
              have hktm := q13 HKTC.out hbm; have hkxm := q13 HKX.out hbm; have ym : Wm.cell? ⟨bt, 0, none⟩ = some (.int .i64 x.f0) := (q4 hktm 0).trans rfl; have xm : Wm.cell? ⟨bx, 1, none⟩ = some (.string x.f1) := (q4 hkxm 1).trans rfl; have xf := q11 hkxm 1; have hmm := @run_makeMap Try.prog; have HBM2 := Aside0.mk hbm; have HKTM := Aside0.mk hktm; have HKXM := Aside0.mk hkxm; have H8 := Aside0.mk h8; clear hWm hbm hktm hkxm h8
              go_upto_region 8 with fail
              have hks : (Wm.setCell ⟨bx, 1, none⟩ (.string s)).heap[bx]? = some (.cells #[.int .i64 x.f0, .string s, .slice A4 l2.length c4] 42 (0, 0)) := by simpa using q21 HKXM.out 1 (.string s)
              have hos : ∀ k, k ≠ bx → (Wm.setCell ⟨bx, 1, none⟩ (.string s)).heap[k]? = Wm.heap[k]? := fun k hk => Below.heap_setCell Wm ⟨bx, 1, none⟩ _ k hk
              have hbs : Below Wt.heap.size Wt (Wm.setCell ⟨bx, 1, none⟩ (.string s)) := (q12 HBW.out HBM2.out).setCell (p := ⟨bx, 1, none⟩) hbx _; obtain ⟨Ws, hWs⟩ : ∃ Ws, Ws = Wm.setCell ⟨bx, 1, none⟩ (.string s) := ⟨_, rfl⟩; rw [← hWs] at hks hos hbs ⊢; have hkts := q13 HKT.out hbs; have w0 : Ws.cell? ⟨bt, 0, none⟩ = some (.int .i64 x.f0) := (q4 hkts 0).trans rfl; have w1 : Ws.cell? ⟨bt, 1, none⟩ = some (.string x.f1) := (q4 hkts 1).trans rfl; have w2 : Ws.cell? ⟨bt, 2, none⟩ = some (.slice A2 x.f2.length c2) := (q4 hkts 2).trans rfl; have hts : TR Ws Wt.heap.size (fun k => Wt.heap.size ≤ k ∧ k ≠ bx) (.slice A4 l2.length c4) l2 := HTX.out.step (fun k h hl => (hos k h.2).trans (HBM2.out.block k hl)); obtain ⟨rv, hrv⟩ := isv_some x.f0 x.f1 x.f2; have HVAR := Aside0.mk (term_IsVariable.calls x.f0 x.f1 A2 c2 x.f2 rv Ws (Kd.C_below HR2.out (q12 HBr.out (q12 HBWT.out hbs))) HL2.out hrv); have HKS := Aside0.mk hks; have HBS := Aside0.mk hbs; have HTS := Aside0.mk hts; have HKTS := Aside0.mk hkts
              have hxs : x.f1.size ≤ 1048576 := by have := HBM.out; have := HBK.out; omega
              have HXS := Aside0.mk hxs; clear hks hos hbs hkts hts hrv hWs g1 g2 g3 gs ym xm xf hmm y0
              go_wp2_with fail
              refine HVAR.out.mono ?_; rintro e Wv ⟨rfl, hbv⟩; have hkv := q13 HKS.out hbv; have hktv := q13 HKTS.out hbv; have v1 : Wv.cell? ⟨bt, 1, none⟩ = some (.string x.f1) := (q4 hktv 1).trans rfl; have x1 : Wv.cell? ⟨bx, 1, none⟩ = some (.string s) := (q4 hkv 1).trans rfl; have xf := q11 hkv 1; have HKV := Aside0.mk hkv; have HBV := Aside0.mk hbv; clear hkv hktv hbv
              cases rv with
              | false =>
                go_wp2_with fail
                go_meet
                case rel => exact ⟨⟨_, HKV.out, fun h => absurd h H8.out, HTS.out.step (fun k h hl => HBV.out.block k hl), q12 HBS.out HBV.out⟩⟩
              | true =>
                go_wp2_with fail
                go_meet
                case rel => exact ⟨⟨_, by simpa using q21 HKV.out 1 (.string (⟨#[57]⟩ ++ x.f1)), fun h => absurd h H8.out, HTS.out.step (fun k h hl => (Below.heap_setCell Wv ⟨bx, 1, none⟩ _ k h.2).trans (HBV.out.block k hl)), (q12 HBS.out HBV.out).setCell (p := ⟨bx, 1, none⟩) hbx _⟩⟩
          case rest =>
            obtain ⟨s', hk', h8', hT', hB'⟩ := hcut.out; have z0 : wc.cell? ⟨bx, 0, none⟩ = some (.int .i64 x.f0) := (q4 hk' 0).trans rfl; have z1 : wc.cell? ⟨bx, 1, none⟩ = some (.string s') := (q4 hk' 1).trans rfl; have z2 : wc.cell? ⟨bx, 2, none⟩ = some (.slice A4 l2.length c4) := (q4 hk' 2).trans rfl; obtain ⟨u, hu⟩ : ∃ u, u = u3 := ⟨_, rfl⟩; have htr : TR wc W.heap.size (fun k => W.heap.size ≤ k ∧ k < wr.heap.size) u3 out := (HT.out.bound).step (fun k h hl => (hB'.block k (Nat.lt_of_lt_of_le h.2 HBWT.out.size)).trans (HBWT.out.block k h.2)); obtain ⟨Va, hVa⟩ : ∃ Va, Va = wc.alloc (.cells #[.int .i64 x.f0, .string s', .slice A4 l2.length c4] 42) := ⟨_, rfl⟩
            have hba : Below wc.heap.size wc Va := by rw [hVa]; exact (Below.refl _ _).alloc (Nat.le_refl _) _
            have hna : Va.heap[wc.heap.size]? = some (.cells #[.int .i64 x.f0, .string s', .slice A4 l2.length c4] 42 (0, 0)) := by rw [hVa]; exact World.alloc_heap_new wc _
            have hsa : Va.heap.size = wc.heap.size + 1 := by rw [hVa]; simp
            have hta : TR Va W.heap.size (fun k => W.heap.size ≤ k ∧ k < wr.heap.size) u3 out := htr.step (fun k h hl => hba.block k hl); obtain ⟨xs, hoa, hra⟩ := hta.own
            have hca : ∀ j u, ([.int .i64 x.f0, .string s', .slice A4 l2.length c4] : List Value)[j]? = some u → Va.cell? ((⟨wc.heap.size, 0, none⟩ : Addr).add j) = some u := fun j u hj => by
              rw [add_plain]; refine (q4 hna _).trans ?_
              match j, hj with
              | 0, hj => exact hj
              | 1, hj => exact hj
              | 2, hj => exact hj
            obtain ⟨i0, hi, hz0, hz1, hz2⟩ := info_parts info_term'; have HI := Aside0.mk (And.intro hi (And.intro hz0 (And.intro hz1 hz2)))
            have hol : out.length ≤ 1048576 := by
              have h1 := HR.out.len; rw [List.length_take] at h1; have h2 := bk_len l; have h3 := HBK.out
              omega
            have hsz : W.heap.size ≤ Va.heap.size := by have h1 := HBr.out.size; have h2 := HBWT.out.size; have h3 := hB'.size; omega
            have HOL := Aside0.mk hol; have HSZ := Aside0.mk hsz; have HK' := Aside0.mk hk'; have HH8 := Aside0.mk h8'; have HT' := Aside0.mk hT'; have HB' := Aside0.mk hB'; have HVA := Aside0.mk hVa; have HBA := Aside0.mk hba; have HSA := Aside0.mk hsa; have HTA := Aside0.mk hta; have HOA := Aside0.mk hoa; have HRA := Aside0.mk hra; have HCA := Aside0.mk hca; clear hcut hk' h8' hT' hB' htr hVa hba hna hsa hta hoa hra hca hi hz0 hz1 hz2 hol hsz y0 hu
            go_wp2_with (at_builtin; rw [← HVA.out]; refine wpList_append_own_at _ rfl (.tmp 36) (.tmp 38) 22 rfl W.heap.size 42 i0 (.agg #[.int .i64 0, .string ⟨#[]⟩, .slice none 0 0]) 3 48 Try.underlying22 HI.out.1 HI.out.2.1 HI.out.2.2.1 HI.out.2.2.2 rfl (by decide) u3 out.length xs rfl HOA.out ⟨wc.heap.size, 0, none⟩ 1 1 [.int .i64 x.f0, .string s', .slice A4 l2.length c4] rfl rfl HCA.out (by simp [Value.oneCell']) (by have := HOL.out; simp only [maxLen]; omega) (by have := HOL.out; omega) HSZ.out ?_; intro v7 w7 ho7 hg7 _ hat7; have HO7 := Aside0.mk ho7; have HG7 := Aside0.mk hg7; have HAT7 := Aside0.mk hat7; clear ho7 hg7 hat7)
            have hu3 : ∀ k, u3.ownBlock = some k → W.heap.size ≤ k ∧ k < wr.heap.size := fun k e => HTA.out.1 k e
            have hsw : W.heap.size ≤ Wt.heap.size := by have h1 := HBr.out.size; have h2 := HBWT.out.size; omega
            have hv7 : ∀ k, v7.ownBlock = some k → u3.ownBlock = some k ∨ Va.heap.size ≤ k := fun k e => by
              rcases HAT7.out with h | h
              · exact .inl (by rw [← h]; exact e)
              · right; rw [h] at e; injection e with e; omega
            have hwt : wr.heap.size ≤ Wt.heap.size := HBWT.out.size; have hT7 : TR w7 Wt.heap.size (fun k => (Wt.heap.size ≤ k ∧ k ≠ bx) ∧ k < wc.heap.size) (.slice A4 l2.length c4) l2 := (HT'.out.bound).step (fun k h hl => (HG7.out.block k (by have := HSA.out; omega) (fun e => by have := (hu3 k e.symm).2; have := h.1.1; omega)).trans (HBA.out.block k hl))
            have hF7 : Kd.F k42 w7 (fun k => W.heap.size ≤ k ∧ some k ≠ v7.ownBlock) A4 l2.length l2 := Kd.F_mono hT7.foot.2.2 (fun k h => ⟨Nat.le_trans hsw h.1.1, fun e => by
              rcases hv7 k e.symm with h' | h'
              · have := (hu3 k h').2; have := h.1.1; omega
              · have := h.2; have := HSA.out; omega⟩)
            have hTn := HTA.out.snoc (g := wr.heap.size) (ok' := fun k => W.heap.size ≤ k) (x := (⟨x.f0, s', l2⟩ : Tm)) HRA.out HO7.out hv7 (Fr.of_grown HG7.out (fun k e => .inr e.symm)) (fun h => by omega) (fun k h _ => h.1) (fun k h _ => Nat.le_trans HSZ.out h) (k42_mkF w7 _ (⟨x.f0, s', l2⟩ : Tm) hc4 hF7) rfl; have hRn := HR.out.snoc (x := x) (y := (⟨x.f0, s', l2⟩ : Tm)) rfl HH8.out HRX.out; rw [← HTK.out] at hRn; have hBn : Below W.heap.size W w7 := (q12 (q12 HBr.out HBWT.out) (HB'.out.trans (HBA.out.mono HB'.out.size))).grown HG7.out HSZ.out (fun k e => (hu3 k e).1); have HTN := Aside0.mk hTn; have HRN := Aside0.mk hRn; have HBN := Aside0.mk hBn; clear hTn hRn hBn hF7 hT7 hv7 hu3
            go_roundw
            case rel => exact ⟨q + 1, _, by go_num, by omega, HRN, HTN, HBN⟩
            case measure => simp [intOf]; omega
      · obtain rfl : q = l.length := by omega
        have hlb : decide ((l.length : Int) < (l.length : Int)) = false := by simp
        rw [List.take_length] at HR; clear ih
        go_wp2_with fail
        go_ret; exact ⟨_, _, rfl, HT.out, HR.out, HBr.out⟩
end Go.Proofs.Ytjhjhhibbmligaa.TE
end
section
namespace Go.Proofs.Ytjhjhhibbmligaa.TE
open Go.RowKit Go.Shelf Go.Proofs.YtjhjhhibbmligaaW.PrintWords Go.Proofs.YtjhjhhibbmligaaW.PrintLast Go.Proofs.YtjhjhhibbmligaaW.PrintMore Go.Proofs.Ytjhjhhibbmligaa.Evs
set_option linter.unusedVariables false
set_option linter.unusedSimpArgs false
section
attribute [local go_sem] Oper.semAt_some
def hasCall (l : List Tm) : Bool := (flat l).any (fun x => decide (x.f0 = 8))
set_option maxRecDepth 100000 in
set_option maxHeartbeats 4000000 in
theorem CallsT.calls (A0 : Option Addr) (c0 : Nat) (l0 : List (S42)) (w : World) (hr0 : Kd.C k42 w A0 l0.length l0) (hc0 : l0.length ≤ c0) :
    Calls Try.prog 40 #[.slice A0 l0.length c0] w fun e w' => e = .returned (.bool (hasCall l0)) ∧ Below w.heap.size w w' := by
  refine calls_of_wp_marks Try.func40 rfl ?_; simp only [Try.ntmps40, List.size_toArray, List.length_cons, List.length_nil, Nat.reduceAdd, Nat.reduceSub, Array.replicate_succ, Array.replicate_zero, List.push_toArray, List.append_toArray, List.nil_append, List.cons_append]
  go_wp2_with (go_at_call 108; refine (callsIn_wide.1 (all_in 0 A0 l0.length c0 _)).mono ?_; rintro e w' ⟨rfl, rfl⟩)
  obtain ⟨Wl, hWl⟩ : ∃ Wl, ((w.alloc (.cells #[.bool false] 4)).alloc (.cells #[.slice A0 l0.length c0] 22)) = Wl := ⟨_, rfl⟩
  have hbl : Below w.heap.size w Wl := by rw [← hWl]; exact ((Below.refl _ w).alloc (Nat.le_refl _) _).alloc (by simp) _
  have hszl : Wl.heap.size = w.heap.size + 2 := by rw [← hWl]; simp
  have hk0 : Wl.heap[w.heap.size]? = some (.cells #[.bool false] 4 (0, 0)) := by
    rw [← hWl]; exact (Below.heap_alloc _ _ _ (by simp)).trans (World.alloc_heap_new w _)
  have hl3 : Wl.heap[w.heap.size + 1]? = some (.cells #[.slice A0 l0.length c0] 22 (0, 0)) := by
    rw [← hWl]; have := World.alloc_heap_new (w.alloc (.cells #[.bool false] 4)) (.cells #[.slice A0 l0.length c0] 22); rw [World.size_alloc] at this; exact this
  rw [hWl]; have HK0 := Aside0.mk hk0; have HBL := Aside0.mk hbl; clear hWl; refine range_allHD w hbl (w.heap.size + 1) A0 c0 l0 hr0 hc0 ((q4 hl3 0).trans rfl) rfl
    (fun pre W => Below Wl.heap.size Wl W ∧ ∀ y ∈ pre, y.x.f0 ≠ 8)
    (fun cd pre W => cd = .ret ∧ (∃ p' y, pre = p' ++ [y] ∧ y.x.f0 = 8) ∧ W.heap[w.heap.size]? = some (.cells #[.bool true] 4 (0, 0)) ∧ Below w.heap.size w W)
    (fun pre V V' row ⟨h1, h2⟩ hg hr => ⟨h1.grown hg h1.size (fun k e => (hr k e).1), h2⟩)
    (fun cd pre V V' row ⟨h0, h1, h2, h3⟩ hg hr => ⟨h0, h1, (grownBy_keeps_cells hg (fun r e => (hr r e).2) h2 rfl).trans h2, h3.grown hg h3.size (fun k e => by have := (hr k e).1; omega)⟩)
    ⟨Below.refl _ _, fun y hy => by cases hy⟩
    (fun x a' W => ∃ B, Wl.heap.size ≤ B ∧ W.heap[B]? = some (.cells #[.int .i64 x.x.f0, .string x.x.f1, .slice x.A x.x.f2.length x.c] 42 (0, 0)) ∧
      a' = { tmps := #[.slice A0 l0.length c0, undef, .pointer (some ⟨w.heap.size, 0, none⟩), .pointer (some ⟨B, 0, none⟩), .slice A0 l0.length c0, .func (.func 145) #[] #[.pointer (some ⟨w.heap.size + 1, 0, none⟩)], .agg #[.int .i64 x.x.f0, .string x.x.f1, .slice x.A x.x.f2.length x.c], undef, undef, undef], defers := [] })
    (fun x a' s W W' row hs hg hr => by
      obtain ⟨B, h1, h2, h3⟩ := hs
      exact ⟨B, h1, (grownBy_keeps_cells hg (fun r e => (hr r e).2) h2 rfl).trans h2, h3⟩) ?assign ?body ?done ?stop
  case assign =>
    rintro lp pre x Wx K ⟨hbx, hall⟩ hK; have HK := Aside0.mk hK; have HBX := Aside0.mk hbx; have HALL := Aside0.mk hall; clear hK hk0 hl3 hall hbx; have hu42 := Try.underlying42
    gi_wp2
    have hal : Below Wx.heap.size Wx (Wx.alloc (.cells #[.int .i64 x.x.f0, .string x.x.f1, .slice x.A x.x.f2.length x.c] 42)) := (Below.refl _ Wx).alloc (Nat.le_refl _) _; exact HK.out _ _ (keepsFrom_below hal) (KeepD.ofBelow hal (by have := HBX.out.size; have := HBL.out.size; omega)) ⟨q12 HBX.out hal, HALL.out⟩ ⟨Wx.heap.size, HBX.out.size, World.alloc_heap_new Wx _, rfl⟩
  case body =>
    rintro lp pre x a' Wx ⟨hbx, hall⟩ ⟨B, hBx, hxb, rfl⟩ hlen; have hx0 : Wx.cell? ⟨B, 0, none⟩ = some (.int .i64 x.x.f0) := (q4 hxb 0).trans rfl; have e0 := q13 HK0.out hbx; have q0 := q11 e0 0; have p0 : Wx.cell? ⟨w.heap.size, 0, none⟩ = some (.bool false) := (q4 e0 0).trans rfl; have E0 := Aside0.mk e0; have HBX := Aside0.mk hbx; have HALL := Aside0.mk hall; clear hxb hk0 hl3 hall hbx e0
    by_cases h8 : x.x.f0 = 8
    · have e8 : (x.x.f0 == 8) = true := by simp [h8]
      gi_wp2
      refine ⟨(KeepsOthers.setCell _ _ _).from _, rfl, ⟨pre, x, rfl, h8⟩, by simpa using q21 E0.out 0 (.bool true), (HBL.out.trans (HBX.out.mono HBL.out.size)).setCell (p := ⟨w.heap.size, 0, none⟩) (Nat.le_refl _) _⟩
    · have e8 : (x.x.f0 == 8) = false := by simp [h8]
      have HX8 := Aside0.mk h8; clear h8
      gi_wp2
      refine ⟨KeepsFrom.refl _ _, KeepD.refl _ _ _, HBX.out, fun z hz => ?_⟩
      rcases List.mem_append.1 hz with h | h
      · exact HALL.out z h
      · rw [List.mem_singleton.1 h]; exact HX8.out
  case done =>
    rintro D ys V hD hys ⟨hi, hall⟩ hkD
    have hres : hasCall l0 = false := by
      unfold hasCall; rw [← hys, List.any_map, List.any_eq_false]; intro y hy; simp [hall y hy]
    have m0 := q13 HK0.out hi; have q0 := q11 m0 0; have p0 : V.cell? ⟨w.heap.size, 0, none⟩ = some (.bool false) := (q4 m0 0).trans rfl; have hbw : Below w.heap.size w V := HBL.out.trans (hi.mono HBL.out.size); have M0 := Aside0.mk m0; have HRES := Aside0.mk hres; have HKD := Aside0.mk hkD; have HBW := Aside0.mk hbw; clear hi hall hys hkD hres hbw m0 hk0 hl3
    go_wp2
    have s0 : (V.setCell ⟨w.heap.size, 0, none⟩ (.bool false)).heap[w.heap.size]? = some (.cells #[.bool false] 4 (0, 0)) := by simpa using q21 M0.out 0 (.bool false)
    have d0 : (V.setCell ⟨w.heap.size, 0, none⟩ (.bool false)).heap[D]? = some (.deferred (some [])) := (Below.heap_setCell V ⟨w.heap.size, 0, none⟩ _ D (by show D ≠ w.heap.size; omega)).trans HKD.out; have b0 : Below w.heap.size w (V.setCell ⟨w.heap.size, 0, none⟩ (.bool false)) := HBW.out.setCell (p := ⟨w.heap.size, 0, none⟩) (Nat.le_refl _) _; obtain ⟨V3, hV3⟩ : ∃ V3, V3 = V.setCell ⟨w.heap.size, 0, none⟩ (.bool false) := ⟨_, rfl⟩; rw [← hV3] at s0 d0 b0 ⊢; have c0 : (V3.putObj D (.deferred none)).cell? ⟨w.heap.size, 0, none⟩ = some (.bool false) := (q4 ((World.putObj_heap_other (by omega)).trans s0) 0).trans rfl; refine leave1c (v := .bool false) d0 (by simp [results, Try.results40, go_sem, c0]) ⟨by rw [HRES.out], putObj_below b0 D _ (by omega) b0.size⟩
  case stop =>
    rintro D cd pre V hD hpre ⟨rfl, ⟨p', y, rfl, h8⟩, h2, h3⟩ hkD
    have hres : hasCall l0 = true := by
      unfold hasCall; rw [List.any_eq_true]; refine ⟨y.x, hpre.subset ?_, by simp [h8]⟩; rw [List.map_append]; exact List.mem_append_right _ (by simp)
    have HRES := Aside0.mk hres; have HKD := Aside0.mk hkD; have H2 := Aside0.mk h2; have H3 := Aside0.mk h3; clear hkD h2 h3 hpre hres hk0 hl3
    go_wp2
    have c0 : (V.putObj D (.deferred none)).cell? ⟨w.heap.size, 0, none⟩ = some (.bool true) := (q4 ((World.putObj_heap_other (by omega)).trans H2.out) 0).trans rfl; refine leave1c (v := .bool true) HKD.out (by simp [results, Try.results40, go_sem, c0]) ⟨by rw [HRES.out], putObj_below H3.out D _ (by omega) H3.out.size⟩
end
end Go.Proofs.Ytjhjhhibbmligaa.TE
end
section
namespace Go.Proofs.Ytjhjhhibbmligaa.TE
open Go.RowKit Go.Shelf Go.Proofs.YtjhjhhibbmligaaW.PrintWords Go.Proofs.YtjhjhhibbmligaaW.PrintLast Go.Proofs.YtjhjhhibbmligaaW.PrintMore Go.Proofs.Ytjhjhhibbmligaa.Evs
set_option linter.unusedVariables false
set_option linter.unusedSimpArgs false
section
attribute [local go_sem] Oper.semAt_some
structure Hy (w : World) (ls : List (List Tm)) where
  i : Nat
  x : List Tm
  hx : ls[i]? = some x
  A : Option Addr
  c : Nat
  hr : Kd.C k42 w A x.length x
  hc : x.length ≤ c
def Hy.enc {w : World} {ls : List (List Tm)} (y : Hy w ls) : Array Value := #[.int .i64 y.i, .slice y.A y.x.length y.c]
def Seen {w : World} {ls : List (List Tm)} (ys : List (Hy w ls)) : Prop := ys.length ≤ ls.length ∧ ys.map (·.i) = (List.range ys.length).map (fun j => ls.length - 1 - j)
theorem Seen.nil {w : World} {ls : List (List Tm)} : Seen ([] : List (Hy w ls)) := ⟨Nat.zero_le _, rfl⟩
theorem Seen.snoc {w : World} {ls : List (List Tm)} {ys : List (Hy w ls)} (h : Seen ys) (y : Hy w ls) (hl : ys.length < ls.length) (hy : y.i = ls.length - 1 - ys.length) : Seen (ys ++ [y]) := by
  refine ⟨by simp; omega, ?_⟩; rw [List.map_append, h.2, List.length_append, List.length_singleton, List.range_succ, List.map_append]; simp [hy]
theorem Seen.last {w : World} {ls : List (List Tm)} {ys : List (Hy w ls)} {y : Hy w ls} (h : Seen (ys ++ [y])) : y.i = ls.length - 1 - ys.length := by
  have h2 := h.2; rw [List.map_append, List.length_append, List.length_singleton, List.range_succ, List.map_append] at h2; have h3 := List.append_inj_right' h2 rfl
  simpa using h3
theorem enters_bw : ∀ args w, (callFunc 150 args).run Try.prog w = .ok (.enter 150 args) w := enters_of Try.func150 (by kernel_rfl) rfl
set_option maxRecDepth 100000 in
set_option maxHeartbeats 4000000 in
theorem back_stops (n : Nat) (w : World) (Bl : Nat) (A : Option Addr) (c : Nat) (ls : List (List Tm)) (hC : Kd.C (Kd.slice 42 k42) w A ls.length ls) (hc : ls.length ≤ c) (hlen : ls.length ≤ 1048576)
    (hl : w.cell? ⟨Bl, 0, none⟩ = some (.slice A ls.length c)) :
    SeqStopsK Fence.wide n Try.prog 150 #[.pointer (some ⟨Bl, 0, none⟩)] (Hy.enc (w := w) (ls := ls)) (fun V V' => Below w.heap.size V V') (fun ys => Seen ys ∧ ys.length = ls.length) Seen ls.length w := by
  intro lp J Jx W hW hJ hJx hY h0
  have hdd : ∀ k : Nat, (Fence.wide.depth.isSome = true → 1 ≤ k) := fun k h => by simp [Fence.wide] at h
  have hlW : W.cell? ⟨Bl, 0, none⟩ = some (.slice A ls.length c) := (hW.cell (World.block_lt_of_cell? w _ hl)).trans hl
  have hcap : (ls.length : Int) ≤ (c : Int) := by omega
  have hwr0 : IntKind.i64.wrap ((ls.length : Int) - 1) = (ls.length : Int) - 1 := by rw [i64_w]; rw [wrap64_id (by omega) (by omega)]
  refine callsIn_of_wp Try.func150 rfl trivial ?_ rfl; simp only [Try.ntmps150, List.size_toArray, List.length_cons, List.length_nil, Nat.reduceAdd, Nat.reduceSub, Array.replicate_succ, Array.replicate_zero, List.push_toArray, List.append_toArray, List.nil_append, List.cons_append]
  gi_wp2
  gi_loopw [3] (fun i wr => ∃ (m : Nat) (v : Int) (ys : List (Hy w ls)), i = .int .i64 v ∧ v = (m : Int) - 1 ∧ m ≤ ls.length ∧ ys.length = ls.length - m ∧ Seen ys ∧ J ys wr ∧ Below w.heap.size w wr) (fun i wr => (intOf i + 1).toNat)
  case atStart => exact ⟨ls.length, _, [], rfl, rfl, Nat.le_refl _, by simp, Seen.nil, h0, hW⟩
  case round =>
    obtain ⟨m, v, ys, rfl, hv, hm, hys, hS, hj, hB⟩ := hrel; have hlr : wr.cell? ⟨Bl, 0, none⟩ = some (.slice A ls.length c) := (hB.cell (World.block_lt_of_cell? w _ hl)).trans hl
    cases m with
    | zero =>
      have hvn : v < 0 := by omega
      have HJ := Aside0.mk hj; have HS := Aside0.mk hS; have hv0 : decide (0 ≤ v) = false := decide_eq_false (by omega)
      have hys0 : ys.length = ls.length := by omega
      have HYS := Aside0.mk hys0; clear hj hS hY h0 hJ hJx hys hys0 hv
      gi_wp2
      go_end0
      exact ⟨⟨_, rfl⟩, .inl ⟨_, ⟨HS.out, HYS.out⟩, HJ.out⟩⟩
    | succ m =>
      obtain rfl : v = (m : Int) := by omega
      have hql : m < ls.length := by omega
      obtain ⟨ad, rfl, hce⟩ := (hC.2.2) (by omega); obtain ⟨cs, hcl, ⟨A2, c2, rfl, hc2, hr2⟩, hcell⟩ := hce m ls[m] (List.getElem?_eq_getElem hql); obtain ⟨x, hx⟩ : ∃ x, ls[m] = x := ⟨_, rfl⟩; rw [hx] at hc2 hr2 hcell
      have hx0 : wr.cell? (ad.add m) = some (.slice A2 x.length c2) := by
        have h0 := hcell 0 _ rfl; rw [show m * (Kd.slice 42 k42).sz + 0 = m by simp [Kd.slice]] at h0; exact (hB.cell (World.block_lt_of_cell? w _ h0)).trans h0
      have hsn := hS.snoc (⟨m, x, by rw [List.getElem?_eq_getElem hql, hx], A2, c2, hr2, hc2⟩ : Hy w ls) (by omega) (by show m = _; omega); obtain ⟨fn, tmps, assign, body, hyr, hR⟩ := hY ys (⟨m, x, by rw [List.getElem?_eq_getElem hql, hx], A2, c2, hr2, hc2⟩ : Hy w ls) wr hj (by omega)
      dsimp only [Hy.enc] at hyr
      have HSN := Aside0.mk hsn; have HB := Aside0.mk hB; have HYS := Aside0.mk hys; have hm0 : (0 : Int) ≤ (m : Int) := Int.natCast_nonneg _; have hge : decide ((m : Int) ≥ 0) = true := decide_eq_true (by omega)
      have hmn : (m : Int) < (ls.length : Int) := by omega
      have hwr1 : IntKind.i64.wrap ((m : Int) - 1) = (m : Int) - 1 := by rw [i64_w]; rw [wrap64_id (by omega) (by omega)]
      clear hce hcell hsn hS hj hys hB h0 hY hJ hJx hv
      gi_wp2_with ((try refine ⟨hdd _, ?_⟩); refine (round_any hR).mono ?_; clear hR; rintro e W2 (⟨rfl, hj2, hk2⟩ | ⟨rfl, hjx⟩))
      · exact ⟨⟨m, _, _, rfl, rfl, by omega, by have := HYS.out; simp; omega, HSN.out, hj2, HB.out.trans hk2⟩, by simp [intOf]⟩
      · gi_wp2
        exact bodyPost_ret (results_none rfl _ _ _) rfl ⟨⟨_, rfl⟩, .inr ⟨_, HSN.out, hjx⟩⟩
end
end Go.Proofs.Ytjhjhhibbmligaa.TE
end
section
namespace Go.Proofs.Ytjhjhhibbmligaa.TE
open Go.RowKit Go.Shelf Go.Proofs.YtjhjhhibbmligaaW.PrintWords Go.Proofs.YtjhjhhibbmligaaW.PrintLast Go.Proofs.YtjhjhhibbmligaaW.PrintMore Go.Proofs.Ytjhjhhibbmligaa.Evs
set_option linter.unusedVariables false
set_option linter.unusedSimpArgs false
def stS (a b : List Tm) : Bool := (prefixS (stk a (actP a)) (stk b (actP b))).2
def whL (st : List Tm → Bool) (ls : List (List Tm)) : Nat → Int
  | 0 => -1
  | k + 1 => if st ((ls[k]?).getD []) = true then (k : Int) else whL st ls k
section
attribute [local go_sem] Oper.semAt_some
set_option maxRecDepth 100000 in
set_option maxHeartbeats 4000000 in
theorem whistle_1.calls (A B : Option Addr) (c d : Nat) (a b : List Tm) (w : World) (hA : Kd.C k42 w A a.length a) (hB : Kd.C k42 w B b.length b) (hc : a.length ≤ c) (hd : b.length ≤ d) (h1 : bk42s a ≤ 1048576) (h2 : bk42s b ≤ 1048576) :
    Calls Try.prog 148 #[.slice A a.length c, .slice B b.length d] w fun e w' => e = .returned (.bool (stS a b)) ∧ Below w.heap.size w w' := by
  have hl : (stk b (actP b)).length ≤ 1048576 := by
    have h3 := stk_len (actP b) b; have h4 := actP_len b; have h5 := flat_len b
    omega
  have hst : stS a b = (prefixS (stk a (actP a)) (stk b (actP b))).2 := rfl; have HST := Aside0.mk hst; have HA := Aside0.mk (Stack.calls A c a w hA hc h1); have HB := Aside0.mk hB; have HD := Aside0.mk hd; have H2 := Aside0.mk h2; have HL := Aside0.mk hl; clear hA hB hc hd h1 h2 hl hst
  go_enter Try.func148, Try.ntmps148
  go_wp2_with fail
  refine HA.out.mono ?_; rintro e w1 ⟨v1, rfl, ho1, hb1⟩; obtain ⟨A1, c1, rfl, hc1, hC1⟩ := own_CS ho1; have HC1 := Aside0.mk hC1; have HCC1 := Aside0.mk hc1; have HB1 := Aside0.mk hb1; clear ho1 hb1 hC1 hc1
  go_wp2_with fail
  refine (Stack.calls B d b w1 (Kd.C_below HB.out HB1.out) HD.out H2.out).mono ?_; rintro e w2 ⟨v2, rfl, ho2, hb2⟩; obtain ⟨A2, c2, rfl, hc2, hC2⟩ := own_CS ho2; have hpx := Prefix.calls A1 A2 c1 c2 _ _ w2 (Kd.C_below HC1.out hb2) HCC1.out hC2 hc2 HL.out; rw [← HST.out] at hpx; have HPX := Aside0.mk hpx; have HB2 := Aside0.mk (q12 HB1.out hb2); clear ho2 hb2 hC2 hc2 hpx
  go_wp2_with fail
  refine HPX.out.mono ?_; rintro e w3 ⟨rfl, n3, hn3⟩; have HB3 : Aside0 (Below w.heap.size w w3) := ⟨by rw [hn3]; exact HB2.out.trans ⟨rfl, rfl, rfl, Nat.le_refl _, fun _ _ => rfl⟩⟩; clear hn3
  go_wp2_with fail
  go_ret; exact ⟨rfl, HB3.out⟩
theorem flat_ok {a : List Tm} (h : bk42s a ≤ 1048576) : (flat a).length ≤ 500000 := by have := flat_len a; omega
set_option maxRecDepth 100000 in
set_option maxHeartbeats 4000000 in
theorem whistle_2.calls (A B : Option Addr) (c d : Nat) (a b : List Tm) (p : Addr) (w : World) (hA : Kd.C k42 w A a.length a) (hB : Kd.C k42 w B b.length b) (hc : a.length ≤ c) (hd : b.length ≤ d) (h1 : bk42s a ≤ 1048576) (h2 : bk42s b ≤ 1048576)
    (hp : w.cell? p = some (.func (.func 148) #[] #[])) :
    Calls Try.prog 149 #[.slice A a.length c, .slice B b.length d, .pointer (some p)] w fun e w' => e = .returned (.bool (stS a b && embL a b)) ∧ Below w.heap.size w w' := by
  have HS := Aside0.mk (whistle_1.calls A B c d a b w hA hB hc hd h1 h2); have HI := Aside0.mk (fun W (h : Below w.heap.size w W) => In.calls A B c d a b W (Kd.C_below hA h) (Kd.C_below hB h) hc hd (flat_ok h1) (flat_ok h2)); obtain ⟨s, hs⟩ : ∃ s, s = stS a b := ⟨_, rfl⟩; obtain ⟨i, hi⟩ : ∃ s, s = embL a b := ⟨_, rfl⟩; rw [← hs] at HS ⊢; rw [← hi] at HI ⊢; clear hA hB hc hd h1 h2 hs hi
  go_enter Try.func149, Try.ntmps149
  go_wp2_with fail
  refine HS.out.mono ?_; rintro e w1 ⟨rfl, hb1⟩; have HB1 := Aside0.mk hb1; clear hb1
  cases s with
  | false =>
    go_wp2_with fail
    go_ret; exact ⟨rfl, HB1.out⟩
  | true =>
    go_wp2_with fail
    refine (HI.out _ HB1.out).mono ?_; rintro e w2 ⟨rfl, hb2⟩; have HB2 := Aside0.mk (q12 HB1.out hb2); clear hb2
    go_wp2_with fail
    go_ret; exact ⟨by simp, HB2.out⟩
set_option maxRecDepth 100000 in
set_option maxHeartbeats 4000000 in
theorem whistle.calls1 (w : World) : Calls Try.prog 111 #[.int .i64 1] w fun e w' => e = .returned (.func (.func 25) #[] #[]) ∧ Below w.heap.size w w' := by
  go_enter Try.func111, Try.ntmps111
  go_wp2_with fail
  go_ret; exact ⟨rfl, (Below.refl _ _).alloc (Nat.le_refl _) _⟩
set_option maxRecDepth 100000 in
set_option maxHeartbeats 4000000 in
theorem whistle.calls2 (w : World) : Calls Try.prog 111 #[.int .i64 2] w fun e w' => e = .returned (.func (.func 148) #[] #[]) ∧ Below w.heap.size w w' := by
  go_enter Try.func111, Try.ntmps111
  go_wp2_with fail
  go_ret; exact ⟨rfl, (Below.refl _ _).alloc (Nat.le_refl _) _⟩
set_option maxRecDepth 100000 in
set_option maxHeartbeats 4000000 in
theorem whistle.calls3 (w : World) : Calls Try.prog 111 #[.int .i64 3] w fun e w' => e = .returned (.func (.func 149) #[] #[.pointer (some ⟨w.heap.size, 0, none⟩)]) ∧ w'.heap[w.heap.size]? = some (.cells #[.func (.func 148) #[] #[]] 37 (0, 0)) ∧ Below w.heap.size w w' := by
  go_enter Try.func111, Try.ntmps111
  go_wp2_with fail
  go_ret; exact ⟨rfl, World.alloc_heap_new w _, (Below.refl _ _).alloc (Nat.le_refl _) _⟩
set_option maxRecDepth 100000 in
set_option maxHeartbeats 4000000 in
theorem Backward.calls (A : Option Addr) (n c : Nat) (w : World) :
    Calls Try.prog 112 #[.slice A n c] w fun e w' => e = .returned (.func (.func 150) #[] #[.pointer (some ⟨w.heap.size, 0, none⟩)]) ∧ w' = w.alloc (.cells #[.slice A n c] 63) := by
  go_enter Try.func112, Try.ntmps112
  go_wp2
  go_ret; exact ⟨rfl, rfl⟩
end
end Go.Proofs.Ytjhjhhibbmligaa.TE
end
