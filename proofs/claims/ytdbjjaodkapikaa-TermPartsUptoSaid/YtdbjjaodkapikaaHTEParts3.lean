/- term.Calls. -/
import Derived.Test.YtdbjjaodkapikaaHTEPlain
import Derived.Test.YtdbjjaodkapikaaHTEAll
namespace Go.Proofs.Ytdbjjaodkapikaa.TE
open Go.RowKit Go.Shelf Go.Proofs.YtdbjjaodkapikaaW.PrintWords Go.Proofs.YtdbjjaodkapikaaW.PrintLast Go.Proofs.YtdbjjaodkapikaaW.PrintMore Go.Proofs.Ytdbjjaodkapikaa.Evs
set_option linter.unusedVariables false
set_option linter.unusedSimpArgs false
section
attribute [local go_sem] Oper.semAt_some
def callsB (l : List S42) : Bool := (flat l).any (fun x => decide (x.f0 = 8))
theorem callsC_results {tmps : Array Value} {B : Nat} {v : Value} {W : World} (ht : tmps.getD 2 undef = .pointer (some ⟨B, 0, none⟩)) (hc : W.cell? ⟨B, 0, none⟩ = some v) :
    (results Try.f49 tmps).run Try.prog W = .ok v W := by
  have ht' : tmps[2]?.getD undef = .pointer (some ⟨B, 0, none⟩) := by simpa using ht
  simp [results, Try.results49, ht', go_sem, hc]
theorem callsC_leave1 {tmps : Array Value} {B D : Nat} {v : Value} {w W : World} {R : Ending → World → Prop} (ht : tmps.getD 2 undef = .pointer (some ⟨B, 0, none⟩)) (hb : W.heap[B]? = some (.cells #[v] 4 (0, 0))) (hB : Below w.heap.size w W)
    (hD : w.heap.size ≤ D) (hk : W.heap[D]? = some (.deferred (some []))) (hr : ∀ W', Below w.heap.size w W' → R (.returned v) W') :
    LeavesInM Fence.wide 9 Try.prog Try.f49 tmps R [{ target := .collected D, args := #[] }] .returning W := by
  have hne : B ≠ D := by intro e; subst e; rw [hb] at hk; cases hk
  have hb2 : (W.putObj D (.deferred none)).heap[B]? = some (.cells #[v] 4 (0, 0)) := (World.putObj_heap_other hne).trans hb; refine ⟨by simp, .inl ⟨_, _, rfl, run_takeDeferred hk, ?_⟩⟩; exact ⟨v, callsC_results ht ((q10 hb2 0).trans rfl), hr _ (putObj_below hB D _ hD hB.size)⟩
set_option maxRecDepth 100000 in
set_option maxHeartbeats 4000000 in
theorem Calls.calls (A0 : Option Addr) (c0 : Nat) (l0 : List (S42)) (w : World) (hr0 : Kd.C k42 w A0 l0.length l0) (hc0 : l0.length ≤ c0) :
    Calls Try.prog 49 #[.slice A0 l0.length c0] w fun e w' => e = .returned (.bool (callsB l0)) ∧ Below w.heap.size w w' := by
  refine calls_of_wp_marks Try.func49 rfl ?_; simp only [Try.ntmps49, List.size_toArray, List.length_cons, List.length_nil, Nat.reduceAdd, Nat.reduceSub, Array.replicate_succ, Array.replicate_zero, List.push_toArray, List.append_toArray, List.nil_append, List.cons_append]
  go_wp2_with (go_at_call 64; refine (callsIn_wide.1 (all_in 0 A0 l0.length c0 _)).mono ?_; rintro e w' ⟨rfl, rfl⟩)
  obtain ⟨Wl, hWl⟩ : ∃ Wl, (w.alloc (.cells #[.bool false] 4)).alloc (.cells #[.slice A0 l0.length c0] 22) = Wl := ⟨_, rfl⟩
  have hbl : Below w.heap.size w Wl := by rw [← hWl]; exact ((Below.refl _ w).alloc (Nat.le_refl _) _).alloc (by simp) _
  have hszl : Wl.heap.size = w.heap.size + 2 := by rw [← hWl]; simp
  have hr1 : Wl.heap[w.heap.size]? = some (.cells #[.bool false] 4 (0, 0)) := by
    rw [← hWl]; exact (Below.heap_alloc _ _ _ (by simp)).trans (World.alloc_heap_new w _)
  have hl2 : Wl.heap[w.heap.size + 1]? = some (.cells #[.slice A0 l0.length c0] 22 (0, 0)) := by
    rw [← hWl]; have := World.alloc_heap_new (w.alloc (.cells #[.bool false] 4)) (.cells #[.slice A0 l0.length c0] 22); rw [World.size_alloc] at this; exact this
  rw [hWl]; refine range_allH w hbl (w.heap.size + 1) A0 c0 l0 hr0 hc0 ((q10 hl2 0).trans rfl) rfl
    (fun pre W => ((Below w.heap.size w W ∧ W.heap[w.heap.size]? = some (.cells #[.bool false] 4 (0, 0))) ∧ Wl.heap.size ≤ W.heap.size) ∧ ∀ y ∈ pre, y.x.f0 ≠ 8)
    (fun c pre W => (Below w.heap.size w W ∧ W.heap[w.heap.size]? = some (.cells #[.bool true] 4 (0, 0))) ∧ (c = .ret ∧ ∃ y ∈ pre, y.x.f0 = 8))
    (OwnFrom.and (OwnFrom.and (OwnFrom.and (ownFrom_below (Nat.le_refl _) hbl.size) (ownFrom_blk _ _ _ _)) (ownFrom_size _ _)) (ownFrom_pure _ _))
    (fun _ => OwnFrom.and (OwnFrom.and (ownFrom_below (Nat.le_refl _) hbl.size) (ownFrom_blk _ _ _ _)) (ownFrom_pure _ _))
    ⟨⟨⟨hbl, hr1⟩, Nat.le_refl _⟩, by simp⟩
    (fun x a' W => ∃ B, Wl.heap.size ≤ B ∧ W.heap[B]? = some (.cells #[.int .i64 x.x.f0, .string x.x.f1, .slice x.A x.x.f2.length x.c] 42 (0, 0)) ∧
      a' = { tmps := #[.slice A0 l0.length c0, undef, .pointer (some ⟨w.heap.size, 0, none⟩), .pointer (some ⟨B, 0, none⟩), .slice A0 l0.length c0, .func (.func 101) #[] #[.pointer (some ⟨w.heap.size + 1, 0, none⟩)], .agg #[.int .i64 x.x.f0, .string x.x.f1, .slice x.A x.x.f2.length x.c], undef, undef, undef], defers := [] })
    (fun x a' s W W' row hs hg hr => by
      obtain ⟨B, h1, h2, h3⟩ := hs
      exact ⟨B, h1, (grownBy_keeps_cells hg (fun r e => (hr r e).2) h2 rfl).trans h2, h3⟩) ?assign ?body ?done ?stop
  case assign =>
    rintro lp pre x Wx K ⟨⟨⟨hbx, hrx⟩, hszx⟩, hgood⟩ hK; have HG := Aside0.mk hgood; have HK0 := Aside0.mk hK; have HRX := Aside0.mk hrx; clear hgood hK hrx hr1 hl2 hWl; have hu42 := Try.underlying42
    gi_wp2
    have hal : Below Wx.heap.size Wx (Wx.alloc (.cells #[.int .i64 x.x.f0, .string x.x.f1, .slice x.A x.x.f2.length x.c] 42)) := (Below.refl _ Wx).alloc (Nat.le_refl _) _; exact HK0.out _ _ (keepsFrom_below hal) (KeepC.ofBelow hal hbx.size) ⟨⟨⟨hbx.trans (hal.mono hbx.size), blk_below HRX.out hal⟩, Nat.le_trans hszx hal.size⟩, HG.out⟩
      ⟨Wx.heap.size, hszx, World.alloc_heap_new Wx _, rfl⟩
  case body =>
    rintro lp pre x a' Wx ⟨⟨⟨hbx, hrx⟩, hszx⟩, hgood⟩ ⟨B, hBx, hxb, rfl⟩ hlen; have HG := Aside0.mk hgood; have hcr : Wx.cell? ⟨w.heap.size, 0, none⟩ = some (.bool false) := (q10 hrx 0).trans rfl; have hfr := q11 hrx 0; have hx0 : Wx.cell? ⟨B, 0, none⟩ = some (.int .i64 x.x.f0) := (q10 hxb 0).trans rfl; have HRX := Aside0.mk hrx; have hu42 := Try.underlying42; clear hgood hrx hxb hr1 hl2 hWl
    by_cases h8 : x.x.f0 = 8
    · have e8 : (x.x.f0 == 8) = true := by simp; exact h8
      have H8 := Aside0.mk h8; clear h8
      gi_wp2
      refine ⟨(KeepsOthers.setCell _ _ _).from _, ⟨hbx.setCell (p := ⟨w.heap.size, 0, none⟩) (by simp) _, setCell_blk HRX.out⟩, rfl, x, by simp, H8.out⟩
    · have e8 : (x.x.f0 == 8) = false := by simp; exact h8
      have H8 := Aside0.mk h8; clear h8
      gi_wp2
      refine ⟨keepsFrom_below (Below.refl _ _), KeepC.refl _ _ _, ⟨⟨hbx, HRX.out⟩, hszx⟩, ?_⟩; intro y hy
      rcases List.mem_append.1 hy with hy | hy
      · exact HG.out y hy
      · obtain rfl := List.mem_singleton.1 hy; exact H8.out
  case done =>
    rintro D ys W hD hys ⟨⟨⟨hb, hr⟩, hsz⟩, hgood⟩ hkD
    have hres : callsB l0 = false := by
      unfold callsB; rw [List.any_eq_false]; intro t ht; rw [← hys] at ht; obtain ⟨y, hy, rfl⟩ := List.mem_map.1 ht
      simpa using hgood y hy
    have HRES := Aside0.mk hres; have hcr : W.cell? ⟨w.heap.size, 0, none⟩ = some (.bool false) := (q10 hr 0).trans rfl; have hfr := q11 hr 0; have HR := Aside0.mk hr; have HKD := Aside0.mk hkD; clear hr hkD hr1 hl2 hWl hys hgood hres
    go_wp2
    (first
      | exact callsC_leave1 rfl HR.out hb (by omega) HKD.out (fun W' hW' => ⟨by rw [HRES.out], hW'⟩)
      | exact callsC_leave1 rfl (setCell_blk HR.out) (hb.setCell (p := ⟨w.heap.size, 0, none⟩) (by simp) _) (by omega) ((Below.heap_setCell W ⟨w.heap.size, 0, none⟩ _ D (by simp; omega)).trans HKD.out) (fun W' hW' => ⟨by rw [HRES.out], hW'⟩))
  case stop =>
    rintro D c pre W hD hpre ⟨⟨hb, hr⟩, rfl, y, hy, hy8⟩ hkD
    have hres : callsB l0 = true := by
      unfold callsB; rw [List.any_eq_true]; exact ⟨y.x, hpre.subset (List.mem_map_of_mem hy), by simpa using hy8⟩
    have HRES := Aside0.mk hres; clear hr1 hl2 hWl hpre hres
    go_wp2
    exact callsC_leave1 rfl hr hb (by omega) hkD (fun W' hW' => ⟨by rw [HRES.out], hW'⟩)
end
end Go.Proofs.Ytdbjjaodkapikaa.TE
