/- Part of the walk: lemmas and printed functions that the claim uses (wip/tools/trim.py). -/
import Derived.Test.YtnffhiiihegjbaaFMDx0
import Derived.Test.YtnffhiiihegjbaaFMDx1
import Derived.Test.YtnffhiiihegjbaaFMDx2
import Derived.Test.YtnffhiiihegjbaaFMDx3
namespace Go.Proofs.Ytnffhiiihegjbaa.MD
open Go.RowKit Go.Proofs.YtnffhiiihegjbaaW.PrintWords Go.Proofs.YtnffhiiihegjbaaW.PrintLast Go.Proofs.YtnffhiiihegjbaaW.PrintMore
attribute [local go_sem] max2_int min2_int max_two min_two max_three min_three max_four min_four
set_option linter.unusedVariables false
set_option linter.unusedSimpArgs false
section
attribute [local go_sem] Oper.semAt_some
def fineT (k : Nat) (a1 : Int) (x : S44) : Option Bool := (term_right.f k x.f0 x.f1 x.f2).map fun b => !decide (a1 < x.f0) && b
def fineAll (k : Nat) (a1 : Int) : List S44 → Option Bool
  | [] => some true
  | x :: r => (fineT k a1 x).bind fun b => (fineAll k a1 r).bind fun c => some (b && c)
def term_check.f (k : Nat) (l0 : List S44) (a1 : Int) : Option (Int) :=
  if 4000 < (flat l0).length then some 5 else (term_depth.f k l0).bind fun d => if 100 < d then some 6 else (fineAll k a1 (flat l0)).bind fun c => some (if c = true then 0 else 2)
theorem fineAll_mem {k : Nat} {a1 : Int} : ∀ {l : List S44} {c : Bool}, fineAll k a1 l = some c → (∀ x ∈ l, ∃ b, fineT k a1 x = some b) ∧ (c = true ↔ ∀ x ∈ l, fineT k a1 x = some true)
  | [], c, h => by
    obtain rfl := Option.some.inj h; simp
  | x :: r, c, h => by
    obtain ⟨b, hb, h⟩ := Option.bind_eq_some_iff.1 h; obtain ⟨d, hd, h⟩ := Option.bind_eq_some_iff.1 h; obtain rfl := Option.some.inj h; obtain ⟨h1, h2⟩ := fineAll_mem hd
    constructor
    · intro y hy
      rcases List.mem_cons.1 hy with rfl | hy
      · exact ⟨b, hb⟩
      · exact h1 y hy
    · simp only [Bool.and_eq_true, h2, List.mem_cons, forall_eq_or_imp, hb, Option.some.injEq]
theorem check_results {tmps : Array Value} {B : Nat} {v : Value} {W : World} (ht : tmps.getD 4 undef = .pointer (some ⟨B, 0, none⟩)) (hc : W.cell? ⟨B, 0, none⟩ = some v) :
    (results Try.f39 tmps).run Try.prog W = .ok v W := by
  have ht' : tmps[4]?.getD undef = .pointer (some ⟨B, 0, none⟩) := by simpa using ht
  simp [results, Try.results39, ht', go_sem, hc]
theorem check_leave1 {tmps : Array Value} {B D : Nat} {v : Value} {w W : World} {R : Ending → World → Prop} (ht : tmps.getD 4 undef = .pointer (some ⟨B, 0, none⟩)) (hb : W.heap[B]? = some (.cells #[v] 25 (0, 0))) (hB : Below w.heap.size w W)
    (hD : w.heap.size ≤ D) (hk : W.heap[D]? = some (.deferred (some []))) (hr : ∀ W', Below w.heap.size w W' → R (.returned v) W') :
    LeavesInM Fence.wide 9 Try.prog Try.f39 tmps R [{ target := .collected D, args := #[] }] .returning W := by
  have hne : B ≠ D := by intro e; subst e; rw [hb] at hk; cases hk
  have hb2 : (W.putObj D (.deferred none)).heap[B]? = some (.cells #[v] 25 (0, 0)) := (World.putObj_heap_other hne).trans hb; refine ⟨by simp, .inl ⟨_, _, rfl, run_takeDeferred hk, ?_⟩⟩; exact ⟨v, check_results ht ((q5 hb2 0).trans rfl), hr _ (putObj_below hB D _ hD hB.size)⟩
theorem check_leave2 {tmps : Array Value} {B D D2 : Nat} {v : Value} {w W : World} {R : Ending → World → Prop} (ht : tmps.getD 4 undef = .pointer (some ⟨B, 0, none⟩)) (hb : W.heap[B]? = some (.cells #[v] 25 (0, 0))) (hB : Below w.heap.size w W)
    (hD : w.heap.size ≤ D) (hk : W.heap[D]? = some (.deferred (some []))) (hD2 : w.heap.size ≤ D2) (hk2 : W.heap[D2]? = some (.deferred (some []))) (hne2 : D ≠ D2) (hr : ∀ W', Below w.heap.size w W' → R (.returned v) W') :
    LeavesInM Fence.wide 9 Try.prog Try.f39 tmps R [{ target := .collected D2, args := #[] }, { target := .collected D, args := #[] }] .returning W := by
  have hne : B ≠ D2 := by intro e; subst e; rw [hb] at hk2; cases hk2
  refine ⟨by simp, .inl ⟨_, _, rfl, run_takeDeferred hk2, ?_⟩⟩; exact check_leave1 ht ((World.putObj_heap_other hne).trans hb) (putObj_below hB D2 _ hD2 hB.size) hD ((World.putObj_heap_other hne2).trans hk) hr
set_option maxRecDepth 100000 in
set_option maxHeartbeats 4000000 in
theorem term_check.calls (k : Nat) (A0 : Option Addr) (c0 : Nat) (l0 : List (S44)) (a1 : Int) (r : Int) (w : World) (hr0 : Kd.C k44 w A0 l0.length l0) (hc0 : l0.length ≤ c0) (h : term_check.f k l0 a1 = some r) :
    Calls Try.prog 39 #[.slice A0 l0.length c0, .int .i64 a1] w fun e w' => e = .returned (.int .i64 r) ∧ Below w.heap.size w w' := by
  have H := Aside0.mk h; clear h; refine calls_of_wp_marks Try.func39 rfl ?_; simp only [Try.ntmps39, List.size_toArray, List.length_cons, List.length_nil, Nat.reduceAdd, Nat.reduceSub, Array.replicate_succ, Array.replicate_zero, List.push_toArray, List.append_toArray, List.nil_append, List.cons_append]
  go_wp2_with (go_at_call 64; refine (callsIn_wide.1 (all_in 0 A0 l0.length c0 _)).mono ?_; rintro e w' ⟨rfl, rfl⟩)
  obtain ⟨Wl, hWl⟩ : ∃ Wl, (((w.alloc (.cells #[.int .i64 a1] 3)).alloc (.cells #[.int .i64 0] 25)).alloc (.cells #[.int .i64 0] 3)).alloc (.cells #[.slice A0 l0.length c0] 22) = Wl := ⟨_, rfl⟩
  have hbl : Below w.heap.size w Wl := by rw [← hWl]; exact ((((Below.refl _ w).alloc (Nat.le_refl _) _).alloc (by simp) _).alloc (by simp; omega) _).alloc (by simp <;> omega) _
  have hszl : Wl.heap.size = w.heap.size + 4 := by rw [← hWl]; simp
  have hk0 : Wl.heap[w.heap.size]? = some (.cells #[.int .i64 a1] 3 (0, 0)) := by
    rw [← hWl]; exact (Below.heap_alloc _ _ _ (by simp; omega)).trans ((Below.heap_alloc _ _ _ (by simp; omega)).trans ((Below.heap_alloc _ _ _ (by simp)).trans (World.alloc_heap_new w _)))
  have hr1 : Wl.heap[w.heap.size + 1]? = some (.cells #[.int .i64 0] 25 (0, 0)) := by
    rw [← hWl]; have := World.alloc_heap_new (w.alloc (.cells #[.int .i64 a1] 3)) (.cells #[.int .i64 0] 25); rw [World.size_alloc] at this; exact (Below.heap_alloc _ _ _ (by simp <;> omega)).trans ((Below.heap_alloc _ _ _ (by simp <;> omega)).trans this)
  have hn2 : Wl.heap[w.heap.size + 2]? = some (.cells #[.int .i64 0] 3 (0, 0)) := by
    rw [← hWl]; have := World.alloc_heap_new ((w.alloc (.cells #[.int .i64 a1] 3)).alloc (.cells #[.int .i64 0] 25)) (.cells #[.int .i64 0] 3); rw [World.size_alloc, World.size_alloc] at this; exact (Below.heap_alloc _ _ _ (by simp)).trans this
  have hl3 : Wl.heap[w.heap.size + 3]? = some (.cells #[.slice A0 l0.length c0] 22 (0, 0)) := by
    rw [← hWl]; have := World.alloc_heap_new (((w.alloc (.cells #[.int .i64 a1] 3)).alloc (.cells #[.int .i64 0] 25)).alloc (.cells #[.int .i64 0] 3)) (.cells #[.slice A0 l0.length c0] 22); rw [World.size_alloc, World.size_alloc, World.size_alloc] at this; exact this
  rw [hWl]
  have hdd : ∀ k lp : Nat, ((Fence.wide.inRound lp).depth.isSome = true → 1 ≤ k) := fun k lp h => by simp [Fence.wide] at h
  refine range_all w hbl (w.heap.size + 3) A0 c0 l0 hr0 hc0 ((q5 hl3 0).trans rfl) rfl
    (fun pre W => ((Below w.heap.size w W ∧ W.heap[w.heap.size]? = some (.cells #[.int .i64 a1] 3 (0, 0))) ∧ (W.heap[w.heap.size + 1]? = some (.cells #[.int .i64 0] 25 (0, 0)) ∧ W.heap[w.heap.size + 2]? = some (.cells #[.int .i64 (pre.length : Int)] 3 (0, 0)))) ∧ pre.length ≤ 4000)
    (fun c pre W => (Below w.heap.size w W ∧ W.heap[w.heap.size + 1]? = some (.cells #[.int .i64 5] 25 (0, 0))) ∧ (c = .ret ∧ 4000 < pre.length))
    (OwnFrom.and (OwnFrom.and (OwnFrom.and (ownFrom_below (Nat.le_refl _) hbl.size) (ownFrom_blk _ _ _ _)) (OwnFrom.and (ownFrom_blk _ _ _ _) (ownFrom_blk _ _ _ _))) (ownFrom_pure _ _))
    (fun _ => OwnFrom.and (OwnFrom.and (ownFrom_below (Nat.le_refl _) hbl.size) (ownFrom_blk _ _ _ _)) (ownFrom_pure _ _))
    ⟨⟨⟨hbl, hk0⟩, hr1, by rw [hn2]; rfl⟩, by simp⟩
    (fun x => { tmps := #[.slice A0 l0.length c0, .int .i64 a1, undef, .pointer (some ⟨w.heap.size, 0, none⟩), .pointer (some ⟨w.heap.size + 1, 0, none⟩), .pointer (some ⟨w.heap.size + 2, 0, none⟩), undef, .slice A0 l0.length c0, .func (.func 81) #[] #[.pointer (some ⟨w.heap.size + 3, 0, none⟩)], .agg #[.int .i64 x.x.f0, .string x.x.f1, .slice x.A x.x.f2.length x.c], undef, undef, undef, undef, undef, undef, undef, undef, undef, undef, undef, undef, undef, undef, undef, undef, undef, undef, undef], defers := [] }) ?assign ?body ?done ?stop
  case assign =>
    intro lp x W K hK
    gi_wp2
    exact hK
  case body =>
    rintro lp pre x W ⟨⟨⟨hb, hk⟩, hr, hn⟩, hp⟩ hlen; have hcn : W.cell? ⟨w.heap.size + 2, 0, none⟩ = some (.int .i64 (pre.length : Int)) := (q5 hn 0).trans rfl; have hfn := q11 hn 0; have hcr : W.cell? ⟨w.heap.size + 1, 0, none⟩ = some (.int .i64 0) := (q5 hr 0).trans rfl; have hfr := q11 hr 0; have HK := Aside0.mk hk; have HR := Aside0.mk hr; have HN := Aside0.mk hn; clear hk hr hn hk0 hr1 hn2 hl3 hWl
    gi_wp2
    · have h4 : 4000 < pre.length + 1 := by omega
      refine ⟨(KeepsOthers.setCell _ _ _).trans (KeepsOthers.setCell _ _ _), ⟨(hb.setCell (p := ⟨w.heap.size + 2, 0, none⟩) (by simp) _).setCell (p := ⟨w.heap.size + 1, 0, none⟩) (by simp) _, ?_⟩, rfl, by simp; omega⟩; exact setCell_blk ((Below.heap_setCell W ⟨w.heap.size + 2, 0, none⟩ _ (w.heap.size + 1) (by simp)).trans HR.out)
    · have h4 : pre.length + 1 ≤ 4000 := by omega
      refine ⟨KeepsOthers.setCell _ _ _, KeepC.setCell _ _ _ _ (by omega) (by omega), ⟨⟨hb.setCell (p := ⟨w.heap.size + 2, 0, none⟩) (by simp) _, (Below.heap_setCell W ⟨w.heap.size + 2, 0, none⟩ _ (w.heap.size) (by simp)).trans HK.out⟩, (Below.heap_setCell W ⟨w.heap.size + 2, 0, none⟩ _ (w.heap.size + 1) (by simp)).trans HR.out, ?_⟩, by simp; omega⟩; rw [setCell_blk HN.out]; simp
  case done =>
    rintro D ys W hD hys ⟨⟨⟨hb, hk⟩, hr, hn⟩, hp⟩ hkD
    have hlen : ¬ 4000 < (flat l0).length := by have := congrArg List.length hys; rw [List.length_map] at this; omega
    have h2 := H.out; unfold term_check.f at h2; rw [if_neg hlen] at h2; obtain ⟨d, hd, h2⟩ := Option.bind_eq_some_iff.1 h2; have HD := Aside0.mk hd; have hCd : Kd.C k44 W A0 l0.length l0 := Kd.C_below hr0 hb; have HKD := Aside0.mk hkD; have HK := Aside0.mk hk; have HRB := Aside0.mk hr; have hDlt : D < W.heap.size := (Array.getElem?_eq_some_iff.1 hkD).1; clear hys hn hk hr hkD hd hk0 hr1 hn2 hl3 hWl hlen hp H
    by_cases h100 : 100 < d
    · obtain rfl : r = 6 := by rw [if_pos h100] at h2; exact (Option.some.inj h2).symm
      have h100b : decide (100 < d) = true := by simpa using h100
      clear h2 h100
      go_wp2_with (go_at_call 65; refine (term_depth.calls k A0 c0 l0 d _ hCd hc0 HD.out).mono ?_; rintro e w3 ⟨rfl, hb3⟩; have hr3 := q16 HRB.out hb3; have hcr3 : w3.cell? ⟨w.heap.size + 1, 0, none⟩ = some (.int .i64 0) := (q5 hr3 0).trans rfl; have hfr3 := q11 hr3 0; have HR3 := Aside0.mk hr3; clear hr3)
      have hk3 := q16 HKD.out hb3; exact check_leave1 rfl (setCell_blk HR3.out) ((hb.trans (hb3.mono hb.size)).setCell (p := ⟨w.heap.size + 1, 0, none⟩) (by simp) _) (by omega) ((Below.heap_setCell w3 ⟨w.heap.size + 1, 0, none⟩ _ D (by simp; omega)).trans hk3) (fun W' hW' => ⟨rfl, hW'⟩)
    · rw [if_neg h100] at h2; obtain ⟨cc, hcc, h2⟩ := Option.bind_eq_some_iff.1 h2; have HCC := Aside0.mk (fineAll_mem hcc); have H2 := Aside0.mk (Option.some.inj h2)
      have h100b : decide (100 < d) = false := by simpa using h100
      clear h2 h100 hcc
      go_wp2_with (first
        | (go_at_call 65; refine (term_depth.calls k A0 c0 l0 d _ hCd hc0 HD.out).mono ?_; rintro e w3 ⟨rfl, hb3⟩)
        | (go_at_call 64; refine (callsIn_wide.1 (all_in 0 A0 l0.length c0 _)).mono ?_; rintro e w' ⟨rfl, rfl⟩))
      obtain ⟨w5, hw5⟩ : ∃ w5, w3.alloc (.cells #[.slice A0 l0.length c0] 22) = w5 := ⟨_, rfl⟩
      have hb35 : Below w3.heap.size w3 w5 := by rw [← hw5]; exact (Below.refl _ w3).alloc (Nat.le_refl _) _
      have hbW5 : Below W.heap.size W w5 := hb3.trans (hb35.mono hb3.size); have hb5 : Below w.heap.size w w5 := hb.trans (hbW5.mono hb.size)
      have hl5 : w5.heap[w3.heap.size]? = some (.cells #[.slice A0 l0.length c0] 22 (0, 0)) := by rw [← hw5]; exact World.alloc_heap_new w3 _
      have hk5 := q16 HK.out hbW5; have hr5 := q16 HRB.out hbW5; have hD5 := q16 HKD.out hbW5; have hDlt5 : D < w5.heap.size := Nat.lt_of_lt_of_le hDlt hbW5.size; rw [hw5]; refine range_allH w hb5 w3.heap.size A0 c0 l0 hr0 hc0 ((q5 hl5 0).trans rfl) rfl
        (fun pre W => ((Below w.heap.size w W ∧ W.heap[w.heap.size]? = some (.cells #[.int .i64 a1] 3 (0, 0))) ∧ (W.heap[w.heap.size + 1]? = some (.cells #[.int .i64 0] 25 (0, 0)) ∧ W.heap[D]? = some (.deferred (some [])) ∧ w5.heap.size ≤ W.heap.size)) ∧ ∀ y ∈ pre, fineT k a1 y.x = some true)
        (fun c pre W => ((Below w.heap.size w W ∧ W.heap[w.heap.size + 1]? = some (.cells #[.int .i64 2] 25 (0, 0))) ∧ W.heap[D]? = some (.deferred (some []))) ∧ (c = .ret ∧ ∃ y ∈ pre, fineT k a1 y.x = some false))
        (OwnFrom.and (OwnFrom.and (OwnFrom.and (ownFrom_below (Nat.le_refl _) hb5.size) (ownFrom_blk _ _ _ _)) (OwnFrom.and (ownFrom_blk _ _ _ _) (OwnFrom.and (ownFrom_old _ _ _ hDlt5) (ownFrom_size _ _)))) (ownFrom_pure _ _))
        (fun _ => OwnFrom.and (OwnFrom.and (OwnFrom.and (ownFrom_below (Nat.le_refl _) hb5.size) (ownFrom_blk _ _ _ _)) (ownFrom_old _ _ _ hDlt5)) (ownFrom_pure _ _))
        ⟨⟨⟨hb5, hk5⟩, hr5, hD5, Nat.le_refl _⟩, by simp⟩
        (fun x a' W => ∃ B, w5.heap.size ≤ B ∧ W.heap[B]? = some (.cells #[.int .i64 x.x.f0, .string x.x.f1, .slice x.A x.x.f2.length x.c] 44 (0, 0)) ∧
          a' = { tmps := #[.slice A0 l0.length c0, .int .i64 a1, undef, .pointer (some ⟨w.heap.size, 0, none⟩), .pointer (some ⟨w.heap.size + 1, 0, none⟩), .pointer (some ⟨w.heap.size + 2, 0, none⟩), .pointer (some ⟨B, 0, none⟩), .slice A0 l0.length c0, .func (.func 81) #[] #[.pointer (some ⟨w.heap.size + 3, 0, none⟩)], undef, undef, undef, undef, undef, .slice A0 l0.length c0, .int .i64 d, .bool false, .slice A0 l0.length c0, .func (.func 81) #[] #[.pointer (some ⟨w3.heap.size, 0, none⟩)], .agg #[.int .i64 x.x.f0, .string x.x.f1, .slice x.A x.x.f2.length x.c], undef, undef, undef, undef, undef, undef, undef, undef, undef], defers := [] })
        (fun x a' s W W' row hs hg hr => by
          obtain ⟨B, h1, h2, h3⟩ := hs
          exact ⟨B, h1, (grownBy_keeps_cells hg (fun r e => (hr r e).2) h2 rfl).trans h2, h3⟩) ?assign2 ?body2 ?done2 ?stop2
      case assign2 =>
        rintro lp pre x Wx K ⟨⟨⟨hbx, hkx⟩, hrx, hDx, hszx⟩, hgood⟩ hK; have HG := Aside0.mk hgood; have HK0 := Aside0.mk hK; have HKX := Aside0.mk hkx; have HRX := Aside0.mk hrx; have HDX := Aside0.mk hDx; clear hgood hK hkx hrx hDx hk5 hr5 hD5 hl5 hw5; have hu44 := Try.underlying44
        gi_wp2
        have hal : Below Wx.heap.size Wx (Wx.alloc (.cells #[.int .i64 x.x.f0, .string x.x.f1, .slice x.A x.x.f2.length x.c] 44)) := (Below.refl _ Wx).alloc (Nat.le_refl _) _; exact HK0.out _ _ (keepsFrom_below hal) (KeepC.ofBelow hal hbx.size) ⟨⟨⟨hbx.trans (hal.mono hbx.size), q16 HKX.out hal⟩, q16 HRX.out hal, q16 HDX.out hal, Nat.le_trans hszx hal.size⟩, HG.out⟩
          ⟨Wx.heap.size, hszx, World.alloc_heap_new Wx _, rfl⟩
      case body2 =>
        rintro lp pre x a' Wx ⟨⟨⟨hbx, hkx⟩, hrx, hDx, hszx⟩, hgood⟩ ⟨B, hBx, hxb, rfl⟩ hlen; obtain ⟨b, hb0⟩ := HCC.out.1 x.x x.hm; have HB0 := Aside0.mk hb0; obtain ⟨rb, hrb, hbe⟩ := Option.map_eq_some_iff.1 hb0; have HBE := Aside0.mk hbe; have HRBF := Aside0.mk hrb; have HG := Aside0.mk hgood; have hck : Wx.cell? ⟨w.heap.size, 0, none⟩ = some (.int .i64 a1) := (q5 hkx 0).trans rfl; have hcr : Wx.cell? ⟨w.heap.size + 1, 0, none⟩ = some (.int .i64 0) := (q5 hrx 0).trans rfl; have hfr := q11 hrx 0; have hx0 : Wx.cell? ⟨B, 0, none⟩ = some (.int .i64 x.x.f0) := (q5 hxb 0).trans rfl; have hx1 : Wx.cell? ⟨B, 1, none⟩ = some (.string x.x.f1) := (q5 hxb 1).trans rfl; have hx2 : Wx.cell? ⟨B, 2, none⟩ = some (.slice x.A x.x.f2.length x.c) := (q5 hxb 2).trans rfl; have hCx : Kd.C k44 Wx x.A x.x.f2.length x.x.f2 := Kd.C_below x.hr hbx; have HKX := Aside0.mk hkx; have HRX := Aside0.mk hrx; have HDX := Aside0.mk hDx; have hu44 := Try.underlying44; have hDltx : D < Wx.heap.size := Nat.lt_of_lt_of_le hDlt5 hszx; clear hgood hkx hrx hDx hxb hk5 hr5 hD5 hl5 hw5 hb0 hrb hbe
        by_cases hgt : a1 < x.x.f0
        · have hgtb : decide (a1 < x.x.f0) = true := by simpa using hgt
          clear hgt
          gi_wp2
          refine ⟨trivial, ?_⟩
          gi_wp2
          refine ⟨(KeepsOthers.setCell _ _ _).from _, ⟨⟨hbx.setCell (p := ⟨w.heap.size + 1, 0, none⟩) (by simp) _, setCell_blk HRX.out⟩, (Below.heap_setCell Wx ⟨w.heap.size + 1, 0, none⟩ _ D (by simp; omega)).trans HDX.out⟩, rfl, x, by simp, ?_⟩; rw [HB0.out, ← HBE.out, hgtb]; rfl
        · have hgtb : decide (a1 < x.x.f0) = false := by simpa using hgt
          clear hgt
          cases rb with
          | true =>
            gi_wp2_with (fail)
            refine ⟨trivial, (CallsIn.inRound lp (callsIn_wide.2 (term_right.calls k _ _ x.A x.c _ true Wx hCx x.hc HRBF.out))).mono ?_⟩; rintro e w4 ⟨rfl, hb4⟩
            gi_wp2
            refine ⟨keepsFrom_below hb4, KeepC.ofBelow hb4 hbx.size, ⟨⟨hbx.trans (hb4.mono hbx.size), q16 HKX.out hb4⟩, q16 HRX.out hb4, q16 HDX.out hb4, Nat.le_trans hszx hb4.size⟩, ?_⟩; intro y hy
            rcases List.mem_append.1 hy with hy | hy
            · exact HG.out y hy
            · obtain rfl := List.mem_singleton.1 hy; rw [HB0.out, ← HBE.out, hgtb]; rfl
          | false =>
            gi_wp2_with (fail)
            refine ⟨trivial, (CallsIn.inRound lp (callsIn_wide.2 (term_right.calls k _ _ x.A x.c _ false Wx hCx x.hc HRBF.out))).mono ?_⟩; rintro e w4 ⟨rfl, hb4⟩; have hr4 := q16 HRX.out hb4; have hcr4 : w4.cell? ⟨w.heap.size + 1, 0, none⟩ = some (.int .i64 0) := (q5 hr4 0).trans rfl; have hfr4 := q11 hr4 0; have HR4 := Aside0.mk hr4; clear hr4
            gi_wp2
            refine ⟨(keepsFrom_below hb4).trans ((KeepsOthers.setCell _ _ _).from _), ⟨⟨(hbx.trans (hb4.mono hbx.size)).setCell (p := ⟨w.heap.size + 1, 0, none⟩) (by simp) _, setCell_blk HR4.out⟩, (Below.heap_setCell w4 ⟨w.heap.size + 1, 0, none⟩ _ D (by simp; omega)).trans (q16 HDX.out hb4)⟩, rfl, x, by simp, ?_⟩; rw [HB0.out, ← HBE.out, hgtb]; rfl
      case done2 =>
        rintro D2 ys2 W2 hD2 hys2 ⟨⟨⟨hb2, hk2⟩, hr2, hDD, hsz2⟩, hgood⟩ hkD2
        have hc1 : cc = true := HCC.out.2.2 (fun t ht => by
          rw [← hys2] at ht; obtain ⟨y, hy, rfl⟩ := List.mem_map.1 ht
          exact hgood y hy)
        obtain rfl : r = 0 := by have := H2.out; rw [if_pos hc1] at this; exact this.symm
        have hcr : W2.cell? ⟨w.heap.size + 1, 0, none⟩ = some (.int .i64 0) := (q5 hr2 0).trans rfl; have hfr := q11 hr2 0; have HR2 := Aside0.mk hr2; have HD2 := Aside0.mk hDD; have HKD2 := Aside0.mk hkD2; have hD2l : D2 < W2.heap.size := (Array.getElem?_eq_some_iff.1 hkD2).1; clear hr2 hDD hkD2 hk2 hk5 hr5 hD5 hl5 hw5 hys2 hgood hc1
        go_wp2
        exact check_leave2 rfl (setCell_blk HR2.out) (hb2.setCell (p := ⟨w.heap.size + 1, 0, none⟩) (by simp) _) (by omega) ((Below.heap_setCell W2 ⟨w.heap.size + 1, 0, none⟩ _ D (by simp; omega)).trans HD2.out)
          (by omega) ((Below.heap_setCell W2 ⟨w.heap.size + 1, 0, none⟩ _ D2 (by have := hb5.size; have := hszl; simp; omega)).trans HKD2.out) (by omega) (fun W' hW' => ⟨rfl, hW'⟩)
      case stop2 =>
        rintro D2 c pre W2 hD2 hpre ⟨⟨⟨hb2, hr2⟩, hDD⟩, rfl, y, hy, hyf⟩ hkD2
        have hc1 : ¬ cc = true := fun e => by
          have := HCC.out.2.1 e y.x (hpre.subset (List.mem_map_of_mem hy)); rw [hyf] at this; cases this
        obtain rfl : r = 2 := by have := H2.out; rw [if_neg hc1] at this; exact this.symm
        clear hk5 hr5 hD5 hl5 hw5
        go_wp2
        exact check_leave2 rfl hr2 hb2 (by omega) hDD (by omega) hkD2 (by omega) (fun W' hW' => ⟨rfl, hW'⟩)
  case stop =>
    rintro D c pre W hD hpre ⟨⟨hb, hr⟩, rfl, hp⟩ hkD
    have hlen : 4000 < (flat l0).length := by have := hpre.length_le; rw [List.length_map] at this; omega
    obtain rfl : r = 5 := by have := H.out; unfold term_check.f at this; rw [if_pos hlen] at this; exact (Option.some.inj this).symm
    go_wp2
    exact check_leave1 rfl hr hb (by omega) hkD (fun W' hW' => ⟨rfl, hW'⟩)
end
def term_Result.f (k : Nat) (l0 : List (S44)) : Option (Int) := (term_check.f k l0 8).bind fun t130 => (some t130)
set_option maxHeartbeats 8000000 in
set_option maxRecDepth 100000 in
theorem term_Result.calls (k : Nat) (A0 : Option Addr) (c0 : Nat) (l0 : List (S44)) (r : Int) (w : World) (hr0 : Kd.C k44 w A0 l0.length l0) (hc0 : l0.length ≤ c0) (h : term_Result.f k l0 = some r) :
    Calls Try.prog 29 #[.slice A0 l0.length c0] w fun e w' => e = .returned (.int .i64 r) ∧ Below w.heap.size w w' := by
  have HR0 := Aside0.mk hr0; have HC0 := Aside0.mk hc0; clear hr0 hc0; have HB := Aside0.mk (Below.refl w.heap.size w); have H : ((term_check.f k l0 8).bind fun t130 => (some t130)) = some r := h; clear h; replace H := Option.bind_eq_some_iff.mp H; obtain ⟨t130, A20, H⟩ := H; replace H : (some t130) = some r := H; have A2 := Aside0.mk A20; clear A20; obtain rfl := Option.some.inj H
  go_enter Try.func29, Try.ntmps29
  go_wp2_with (first | ((with_reducible refine q14 (f := 39) rfl ?_); refine goesL_ (some 4) rfl rfl Try.func39 (by kernel_rfl) rfl #[.slice A0 l0.length c0, .int .i64 8] rfl (by (try simp only [List.map_toArray, List.map_cons, List.map_nil]); rfl) ?_; (with_reducible refine (term_check.calls k _ _ l0 8 t130 _ ?side1 ?side2 A2.out).mono ?_); (case side1 => repeat (exact HR0.out)); (case side2 => exact HC0.out); rintro e w3 ⟨rfl, hb⟩; refine ⟨_, rfl, ?_⟩; have n0_ := Aside0.mk (q10 (by with_reducible exact HB.out) hb); clear HB; have HB := n0_; clear n0_; (try clear hb); (try clear hb2); (try clear hk); (try clear hi)))
  go_ret; exact ⟨by rfl, by with_reducible exact HB.out⟩
def meta_word.f (a0 : ByteArray) : Option (Int × ByteArray × (List (S44))) := some (2, a0, ([] : List (S44)))
set_option maxHeartbeats 8000000 in
set_option maxRecDepth 100000 in
theorem meta_word.calls (a0 : ByteArray) (r1 : Int) (r2 : ByteArray) (r3 : List (S44)) (w : World) (h : meta_word.f a0 = some (r1, r2, r3)) :
    Calls Try.prog 46 #[.string a0] w fun e w' => ∃ v2_ : Value, e = .returned (.agg #[.int .i64 r1, .string r2, v2_]) ∧ Kd.R k44 44 w' w.heap.size (fun _ => True) v2_ r3 ∧ Below w.heap.size w w' := by
  have hu44 := Try.underlying44; have HB := Aside0.mk (Below.refl w.heap.size w); have H : (some (2, a0, ([] : List (S44)))) = some (r1, r2, r3) := h; clear h; simp only [Option.some.injEq, Prod.mk.injEq] at H; obtain ⟨rfl, rfl, rfl⟩ := H
  go_enter Try.func46, Try.ntmps46
  go_wp2_with (first | ((with_reducible refine q21 (N := 2) rfl ?_); refine q22 ?hg (N := 2) ?hd (cs := #[.int .i64 0, .string (⟨#[]⟩ : ByteArray), .slice none 0 0]) (t := 44) ?hr ?_; (case hd => rfl); (case hg => rfl); (case hr => (go_simp; done)); intro gb131 hg w2 hbox hb; have n0_ := Aside0.mk (q10 (by with_reducible exact HB.out) hb); have n1_ := Aside0.mk (hbox); have n2_ := Aside0.mk ((by rw [hg]; exact (q3 (by with_reducible exact HB.out)) : w.heap.size ≤ gb131)); have n3_ := Aside0.mk ((by rw [hg]; exact (q3 (by with_reducible exact HB.out)) : w.heap.size ≤ gb131)); clear HB; have HB := n0_; have BK131 := n1_; have GW131 := n2_; have GE131 := n3_; clear n0_ n1_ n2_ n3_; clear hb hbox hg; have hcz3_0 : w2.cell? ⟨gb131, 0, none⟩ = some (.int .i64 0) := (q5 BK131.out 0).trans rfl; have hcz3_1 : w2.cell? ⟨gb131, 1, none⟩ = some (.string (⟨#[]⟩ : ByteArray)) := (q5 BK131.out 1).trans rfl; have hcz3_2 : w2.cell? ⟨gb131, 2, none⟩ = some (.slice none 0 0) := (q5 BK131.out 2).trans rfl; have hfz3_0 := q11 BK131.out 0; have hfz3_1 := q11 BK131.out 1; have hfz3_2 := q11 BK131.out 2))
  refine bodyPost_ret (results_cell_row rfl _ _ gb131 44 #[.int .i64 2, .string a0, .slice none 0 0] (0, 0) _ rfl (by refine q17 (cs := #[.int .i64 2, .string a0, .slice none 0 0]) ?_ 2 _ rfl; refine q17 (cs := #[.int .i64 2, .string (⟨#[]⟩ : ByteArray), .slice none 0 0]) ?_ 1 _ rfl; refine q17 (cs := #[.int .i64 0, .string (⟨#[]⟩ : ByteArray), .slice none 0 0]) ?_ 0 _ rfl; exact BK131.out) Try.underlying44 rfl (by kernel_rfl)) rfl ?_; exact ⟨_, by rfl, by exact Kd.R_nil _ _ _ _ _, by repeat ((with_reducible first | exact HB.out | refine q24 ?_ GE131.out))⟩
def meta_group.f (l0 : List (S44)) : Option (Int × ByteArray × (List (S44))) := some (4, (⟨#[]⟩ : ByteArray), l0)
set_option maxHeartbeats 8000000 in
set_option maxRecDepth 100000 in
theorem meta_group.calls (P0_ : Nat → Prop) (A0 : Option Addr) (c0 : Nat) (l0 : List (S44)) (r1 : Int) (r2 : ByteArray) (r3 : List (S44)) (w : World) (hs0 : Kd.V k44 44 w w.heap.size (fun k_ => P0_ k_) (.slice A0 l0.length c0) l0) (h : meta_group.f l0 = some (r1, r2, r3)) :
    Calls Try.prog 49 #[.slice A0 l0.length c0] w fun e w' => ∃ v2_ : Value, e = .returned (.agg #[.int .i64 r1, .string r2, v2_]) ∧ Kd.V k44 44 w' w.heap.size (fun k_ => (P0_ k_ ∨ w.heap.size ≤ k_)) v2_ r3 ∧ Below w.heap.size w w' := by
  have hu44 := Try.underlying44; have HO0 := Aside0.mk (show Kd.V k44 44 w w.heap.size (fun k_ => (P0_ k_ ∨ w.heap.size ≤ k_)) (.slice A0 l0.length c0) l0 from Kd.V_mono hs0 (fun k_ hk => .inl hk)); have HB := Aside0.mk (Below.refl w.heap.size w); have H : (some (4, (⟨#[]⟩ : ByteArray), l0)) = some (r1, r2, r3) := h; clear h; simp only [Option.some.injEq, Prod.mk.injEq] at H; obtain ⟨rfl, rfl, rfl⟩ := H
  go_enter Try.func49, Try.ntmps49
  go_wp2_with (first | ((with_reducible refine q21 (N := 2) rfl ?_); refine q22 ?hg (N := 2) ?hd (cs := #[.int .i64 0, .string (⟨#[]⟩ : ByteArray), .slice none 0 0]) (t := 44) ?hr ?_; (case hd => rfl); (case hg => rfl); (case hr => (go_simp; done)); intro gb132 hg w2 hbox hb; have n0_ := Aside0.mk (Kd.V_below (Kd.V_elderB (by exact HO0.out) gb132 (Nat.le_of_eq hg.symm)) hb); have n1_ := Aside0.mk (q10 (by with_reducible exact HB.out) hb); have n2_ := Aside0.mk (hbox); have n3_ := Aside0.mk ((by rw [hg]; exact (q3 (by with_reducible exact HB.out)) : w.heap.size ≤ gb132)); have n4_ := Aside0.mk ((by rw [hg]; exact (q3 (by with_reducible exact HB.out)) : w.heap.size ≤ gb132)); clear HO0; clear HB; have HO0 := n0_; have HB := n1_; have BK132 := n2_; have GW132 := n3_; have GE132 := n4_; clear n0_ n1_ n2_ n3_ n4_; clear hb hbox hg; have hcz3_0 : w2.cell? ⟨gb132, 0, none⟩ = some (.int .i64 0) := (q5 BK132.out 0).trans rfl; have hcz3_1 : w2.cell? ⟨gb132, 1, none⟩ = some (.string (⟨#[]⟩ : ByteArray)) := (q5 BK132.out 1).trans rfl; have hcz3_2 : w2.cell? ⟨gb132, 2, none⟩ = some (.slice none 0 0) := (q5 BK132.out 2).trans rfl; have hfz3_0 := q11 BK132.out 0; have hfz3_1 := q11 BK132.out 1; have hfz3_2 := q11 BK132.out 2))
  refine bodyPost_ret (results_cell_row rfl _ _ gb132 44 #[.int .i64 4, .string (⟨#[]⟩ : ByteArray), .slice A0 l0.length c0] (0, 0) _ rfl (by refine q17 (cs := #[.int .i64 4, .string (⟨#[]⟩ : ByteArray), .slice none 0 0]) ?_ 2 _ rfl; refine q17 (cs := #[.int .i64 4, .string (⟨#[]⟩ : ByteArray), .slice none 0 0]) ?_ 1 _ rfl; refine q17 (cs := #[.int .i64 0, .string (⟨#[]⟩ : ByteArray), .slice none 0 0]) ?_ 0 _ rfl; exact BK132.out) Try.underlying44 rfl (by kernel_rfl)) rfl ?_; exact ⟨_, by rfl, by exact Kd.V_mono (Kd.V_far (p := ⟨gb132, 2, none⟩) (Kd.V_far (p := ⟨gb132, 1, none⟩) (Kd.V_far (p := ⟨gb132, 0, none⟩) (Kd.V_mono HO0.out (fun k_ hk => (⟨hk, hk.2⟩ : _ ∧ k_ ≠ gb132))) (fun _ hk => hk.2) (.int .i64 4)) (fun _ hk => hk.2) (.string (⟨#[]⟩ : ByteArray))) (fun _ hk => hk.2) (.slice A0 l0.length c0)) (fun _ hk => hk.1.1), by repeat ((with_reducible first | exact HB.out | refine q24 ?_ GE132.out))⟩
def meta_char.f (a0 : ByteArray) : Option (Int × ByteArray × (List (S44))) := some (1, a0, ([] : List (S44)))
set_option maxHeartbeats 8000000 in
set_option maxRecDepth 100000 in
theorem meta_char.calls (a0 : ByteArray) (r1 : Int) (r2 : ByteArray) (r3 : List (S44)) (w : World) (h : meta_char.f a0 = some (r1, r2, r3)) :
    Calls Try.prog 51 #[.string a0] w fun e w' => ∃ v2_ : Value, e = .returned (.agg #[.int .i64 r1, .string r2, v2_]) ∧ Kd.R k44 44 w' w.heap.size (fun _ => True) v2_ r3 ∧ Below w.heap.size w w' := by
  have hu44 := Try.underlying44; have HB := Aside0.mk (Below.refl w.heap.size w); have H : (some (1, a0, ([] : List (S44)))) = some (r1, r2, r3) := h; clear h; simp only [Option.some.injEq, Prod.mk.injEq] at H; obtain ⟨rfl, rfl, rfl⟩ := H
  go_enter Try.func51, Try.ntmps51
  go_wp2_with (first | ((with_reducible refine q21 (N := 2) rfl ?_); refine q22 ?hg (N := 2) ?hd (cs := #[.int .i64 0, .string (⟨#[]⟩ : ByteArray), .slice none 0 0]) (t := 44) ?hr ?_; (case hd => rfl); (case hg => rfl); (case hr => (go_simp; done)); intro gb133 hg w2 hbox hb; have n0_ := Aside0.mk (q10 (by with_reducible exact HB.out) hb); have n1_ := Aside0.mk (hbox); have n2_ := Aside0.mk ((by rw [hg]; exact (q3 (by with_reducible exact HB.out)) : w.heap.size ≤ gb133)); have n3_ := Aside0.mk ((by rw [hg]; exact (q3 (by with_reducible exact HB.out)) : w.heap.size ≤ gb133)); clear HB; have HB := n0_; have BK133 := n1_; have GW133 := n2_; have GE133 := n3_; clear n0_ n1_ n2_ n3_; clear hb hbox hg; have hcz3_0 : w2.cell? ⟨gb133, 0, none⟩ = some (.int .i64 0) := (q5 BK133.out 0).trans rfl; have hcz3_1 : w2.cell? ⟨gb133, 1, none⟩ = some (.string (⟨#[]⟩ : ByteArray)) := (q5 BK133.out 1).trans rfl; have hcz3_2 : w2.cell? ⟨gb133, 2, none⟩ = some (.slice none 0 0) := (q5 BK133.out 2).trans rfl; have hfz3_0 := q11 BK133.out 0; have hfz3_1 := q11 BK133.out 1; have hfz3_2 := q11 BK133.out 2))
  refine bodyPost_ret (results_cell_row rfl _ _ gb133 44 #[.int .i64 1, .string a0, .slice none 0 0] (0, 0) _ rfl (by refine q17 (cs := #[.int .i64 1, .string a0, .slice none 0 0]) ?_ 2 _ rfl; refine q17 (cs := #[.int .i64 1, .string (⟨#[]⟩ : ByteArray), .slice none 0 0]) ?_ 1 _ rfl; refine q17 (cs := #[.int .i64 0, .string (⟨#[]⟩ : ByteArray), .slice none 0 0]) ?_ 0 _ rfl; exact BK133.out) Try.underlying44 rfl (by kernel_rfl)) rfl ?_; exact ⟨_, by rfl, by exact Kd.R_nil _ _ _ _ _, by repeat ((with_reducible first | exact HB.out | refine q24 ?_ GE133.out))⟩
def term_IsVariable.f (a0_0 : Int) (a0_1 : ByteArray) (l0_2 : List (S44)) : Option (Bool) := if a0_0 ≥ 5 then (some (decide (a0_0 ≤ 7))) else (some false)
set_option maxHeartbeats 8000000 in
set_option maxRecDepth 100000 in
theorem term_IsVariable.calls (a0_0 : Int) (a0_1 : ByteArray) (A0_2 : Option Addr) (c0_2 : Nat) (l0_2 : List (S44)) (r : Bool) (w : World) (hr0_2 : Kd.C k44 w A0_2 l0_2.length l0_2) (hc0_2 : l0_2.length ≤ c0_2) (h : term_IsVariable.f a0_0 a0_1 l0_2 = some r) :
    Calls Try.prog 52 #[.agg #[.int .i64 a0_0, .string a0_1, .slice A0_2 l0_2.length c0_2]] w fun e w' => e = .returned (.bool r) ∧ Below w.heap.size w w' := by
  have hu44 := Try.underlying44; have HR0_2 := Aside0.mk hr0_2; have HC0_2 := Aside0.mk hc0_2; clear hr0_2 hc0_2; have HB := Aside0.mk (Below.refl w.heap.size w); have H : (if a0_0 ≥ 5 then (some (decide (a0_0 ≤ 7))) else (some false)) = some r := h; clear h
  by_cases c2 : a0_0 ≥ 5
  · rw [if_pos c2] at H; have c2b0 : decide (5 ≤ a0_0) = true := decide_eq_true c2; clear c2; obtain rfl := Option.some.inj H
    go_enter Try.func52, Try.ntmps52
    go_wp2_with (first | ((with_reducible refine q21 (N := 1) rfl ?_); refine q22 ?hg (N := 1) ?hd (cs := #[.int .i64 a0_0, .string a0_1, .slice A0_2 l0_2.length c0_2]) (t := 44) ?hr ?_; (case hd => rfl); (case hg => rfl); (case hr => (go_simp; done)); intro gb134 hg w3 hbox hb; have n0_ := Aside0.mk (q10 (by with_reducible exact HB.out) hb); have n1_ := Aside0.mk (hbox); have n2_ := Aside0.mk ((by rw [hg]; exact (q3 (by with_reducible exact HB.out)) : w.heap.size ≤ gb134)); have n3_ := Aside0.mk ((by rw [hg]; exact (q3 (by with_reducible exact HB.out)) : w.heap.size ≤ gb134)); clear HB; have HB := n0_; have BK134 := n1_; have GW134 := n2_; have GE134 := n3_; clear n0_ n1_ n2_ n3_; clear hb hbox hg; have hcz4_0 : w3.cell? ⟨gb134, 0, none⟩ = some (.int .i64 a0_0) := (q5 BK134.out 0).trans rfl; have hcz4_1 : w3.cell? ⟨gb134, 1, none⟩ = some (.string a0_1) := (q5 BK134.out 1).trans rfl; have hcz4_2 : w3.cell? ⟨gb134, 2, none⟩ = some (.slice A0_2 l0_2.length c0_2) := (q5 BK134.out 2).trans rfl; have hfz4_0 := q11 BK134.out 0; have hfz4_1 := q11 BK134.out 1; have hfz4_2 := q11 BK134.out 2))
    go_ret; exact ⟨by rfl, by with_reducible exact HB.out⟩
  · rw [if_neg c2] at H; have c2b0 : decide (5 ≤ a0_0) = false := decide_eq_false c2; clear c2; obtain rfl := Option.some.inj H
    go_enter Try.func52, Try.ntmps52
    go_wp2_with (first | ((with_reducible refine q21 (N := 1) rfl ?_); refine q22 ?hg (N := 1) ?hd (cs := #[.int .i64 a0_0, .string a0_1, .slice A0_2 l0_2.length c0_2]) (t := 44) ?hr ?_; (case hd => rfl); (case hg => rfl); (case hr => (go_simp; done)); intro gb134 hg w5 hbox hb; have n0_ := Aside0.mk (q10 (by with_reducible exact HB.out) hb); have n1_ := Aside0.mk (hbox); have n2_ := Aside0.mk ((by rw [hg]; exact (q3 (by with_reducible exact HB.out)) : w.heap.size ≤ gb134)); have n3_ := Aside0.mk ((by rw [hg]; exact (q3 (by with_reducible exact HB.out)) : w.heap.size ≤ gb134)); clear HB; have HB := n0_; have BK134 := n1_; have GW134 := n2_; have GE134 := n3_; clear n0_ n1_ n2_ n3_; clear hb hbox hg; have hcz6_0 : w5.cell? ⟨gb134, 0, none⟩ = some (.int .i64 a0_0) := (q5 BK134.out 0).trans rfl; have hcz6_1 : w5.cell? ⟨gb134, 1, none⟩ = some (.string a0_1) := (q5 BK134.out 1).trans rfl; have hcz6_2 : w5.cell? ⟨gb134, 2, none⟩ = some (.slice A0_2 l0_2.length c0_2) := (q5 BK134.out 2).trans rfl; have hfz6_0 := q11 BK134.out 0; have hfz6_1 := q11 BK134.out 1; have hfz6_2 := q11 BK134.out 2))
    go_ret; exact ⟨by rfl, by with_reducible exact HB.out⟩
section
open Go.Proofs.Ytnffhiiihegjbaa.Hand
def meta_letter (k : Int) : ByteArray := if k = 5 then ⟨#[83]⟩ else if k = 6 then ⟨#[84]⟩ else if k = 7 then ⟨#[69]⟩ else ⟨#[]⟩
def meta_letters.f : Option (Unit) := some ()
theorem zero9 (w : World) : (zeroValue 9).run Try.prog w = .ok (.string ⟨#[]⟩) w := by kernel_rfl
def letEntries : Array MapEntry := #[{ key := .int .i64 5, val := .string ⟨#[83]⟩, born := 0 }, { key := .int .i64 6, val := .string ⟨#[84]⟩, born := 1 }, { key := .int .i64 7, val := .string ⟨#[69]⟩, born := 2 }]
set_option maxHeartbeats 1000000 in
theorem meta_letters.map (w : World) : Calls Try.prog 53 #[] w fun e w' => e = .returned (.map (some w.heap.size)) ∧ w' = w.alloc (.map letEntries 3) := by
  have hmm := @run_makeMap Try.prog
  have h1 : (Instr.mapUpdate 72 (.map (some w.heap.size)) (.int .i64 5) (.string ⟨#[83]⟩)).run Try.prog (w.alloc (.map #[] 0)) = .ok () (w.alloc (.map #[{ key := .int .i64 5, val := .string ⟨#[83]⟩, born := 0 }] 1)) := by
    rw [run_mapUpdate_new Try.underlying72 Try.underlying3 (by simp [MapKept.IsKey]) (MapKept.heap_alloc w _).1 _ rfl, putObj_alloc]; rfl
  have h2 : (Instr.mapUpdate 72 (.map (some w.heap.size)) (.int .i64 6) (.string ⟨#[84]⟩)).run Try.prog (w.alloc (.map #[{ key := .int .i64 5, val := .string ⟨#[83]⟩, born := 0 }] 1)) = .ok () (w.alloc (.map #[{ key := .int .i64 5, val := .string ⟨#[83]⟩, born := 0 }, { key := .int .i64 6, val := .string ⟨#[84]⟩, born := 1 }] 2)) := by
    rw [run_mapUpdate_new Try.underlying72 Try.underlying3 (by simp [MapKept.IsKey]) (MapKept.heap_alloc w _).1 _ rfl, putObj_alloc]; rfl
  have h3 : (Instr.mapUpdate 72 (.map (some w.heap.size)) (.int .i64 7) (.string ⟨#[69]⟩)).run Try.prog (w.alloc (.map #[{ key := .int .i64 5, val := .string ⟨#[83]⟩, born := 0 }, { key := .int .i64 6, val := .string ⟨#[84]⟩, born := 1 }] 2)) = .ok () (w.alloc (.map #[{ key := .int .i64 5, val := .string ⟨#[83]⟩, born := 0 }, { key := .int .i64 6, val := .string ⟨#[84]⟩, born := 1 }, { key := .int .i64 7, val := .string ⟨#[69]⟩, born := 2 }] 3)) := by
    rw [run_mapUpdate_new Try.underlying72 Try.underlying3 (by simp [MapKept.IsKey]) (MapKept.heap_alloc w _).1 _ rfl, putObj_alloc]; rfl
  go_enter Try.func53, Try.ntmps53
  go_wp2
  go_ret; exact ⟨rfl, rfl⟩
set_option maxHeartbeats 1000000 in
theorem meta_letters.calls (w : World) (h : meta_letters.f = some ()) :
    Calls Try.prog 53 #[] w fun e w' => ∃ v, e = .returned v ∧ (∀ x : Int, (Instr.lookup 72 v (.int .i64 x) false).run Try.prog w' = .ok (.string (meta_letter x)) w') ∧ Below w.heap.size w w' := by
  refine (meta_letters.map w).mono ?_; rintro e w' ⟨rfl, rfl⟩; refine ⟨.map (some w.heap.size), rfl, fun x => ?_, (Below.refl _ w).alloc (Nat.le_refl _) _⟩
  have hl := fun (r : Option (Nat × Value)) hf => run_lookup_plain (key := .int .i64 x) (r := r) Try.underlying72 Try.underlying3 (by simp [MapKept.IsKey]) (MapKept.heap_alloc w (.map letEntries 3)).1 (zero9 _) hf
  by_cases e5 : x = 5
  · rw [hl (some (0, .string ⟨#[83]⟩)) (by simp [letEntries, Instr.findNow, Instr.sameNow, e5])]; simp [meta_letter, e5]
  by_cases e6 : x = 6
  · rw [hl (some (1, .string ⟨#[84]⟩)) (by simp [letEntries, Instr.findNow, Instr.sameNow, e6])]; simp [meta_letter, e6]
  by_cases e7 : x = 7
  · rw [hl (some (2, .string ⟨#[69]⟩)) (by simp [letEntries, Instr.findNow, Instr.sameNow, e7])]; simp [meta_letter, e7]
  rw [hl none (by
    have b5 : (x == 5) = false := by simp [e5]
    have b6 : (x == 6) = false := by simp [e6]
    have b7 : (x == 7) = false := by simp [e7]
    simp [letEntries, Instr.findNow, Instr.sameNow, b5, b6, b7])]
  simp [meta_letter, e5, e6, e7]
end
end Go.Proofs.Ytnffhiiihegjbaa.MD
