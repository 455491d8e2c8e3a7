/- Part of the walk: lemmas and printed functions that the claim uses (wip/tools/trim.py). -/
import Derived.Test.YtnffhiiihegjbaaFMDx0
import Derived.Test.YtnffhiiihegjbaaFMDx4
import Derived.Test.YtnffhiiihegjbaaFMDx8
namespace Go.Proofs.Ytnffhiiihegjbaa.MD
open Go.RowKit Go.Proofs.YtnffhiiihegjbaaW.PrintWords Go.Proofs.YtnffhiiihegjbaaW.PrintLast Go.Proofs.YtnffhiiihegjbaaW.PrintMore
attribute [local go_sem] max2_int min2_int max_two min_two max_three min_three max_four min_four
set_option linter.unusedVariables false
set_option linter.unusedSimpArgs false
section
open Go.Proofs.Ytnffhiiihegjbaa.Hand
def IsRd (W : World) (g : Nat) (ok : Nat → Prop) (l : List S44) : Prop :=
  ∃ A c, W.heap[g]? = some (.cells #[.slice A l.length c] 80 (0, 0)) ∧ l.length ≤ c ∧ Kd.F k44 W ok A l.length l
theorem rd_cell {W : World} {g : Nat} {v : Value} (h : W.heap[g]? = some (.cells #[v] 80 (0, 0))) : W.cell? ⟨g, 0, none⟩ = some v := (q5 h 0).trans rfl
theorem blk3 {W : World} {g : Nat} {a b c : Value} {t : TypeId} (h : W.heap[g]? = some (.cells #[a, b, c] t (0, 0))) :
    W.cell? ⟨g, 0, none⟩ = some a ∧ W.cell? ⟨g, 1, none⟩ = some b ∧ W.cell? ⟨g, 2, none⟩ = some c ∧ W.frozen? ⟨g, 0, none⟩ = false ∧ W.frozen? ⟨g, 1, none⟩ = false ∧ W.frozen? ⟨g, 2, none⟩ = false :=
  ⟨(q5 h 0).trans rfl, (q5 h 1).trans rfl, (q5 h 2).trans rfl, q11 h 0, q11 h 1, q11 h 2⟩
set_option maxHeartbeats 4000000 in
set_option maxRecDepth 100000 in
theorem meta_next.nil (g : Nat) (ok : Nat → Prop) (w : World) (h : IsRd w g ok []) :
    Calls Try.prog 60 #[.pointer (some ⟨g, 0, none⟩)] w fun e w' => e = .returned (.tuple #[.agg #[.int .i64 0, .string ⟨#[]⟩, .slice none 0 0], .bool false]) ∧ Below w.heap.size w w' := by
  obtain ⟨A, c, hb, hl, hF⟩ := h; have info44' := info44; have hu44 := Try.underlying44
  go_enter Try.func60, Try.ntmps60
  go_upto_region 1 with (fail)
  obtain ⟨W1, hW1⟩ : ∃ W1, w.alloc (.cells #[.int .i64 0, .string ⟨#[]⟩, .slice none 0 0] 44) = W1 := ⟨_, rfl⟩
  have hb1 : W1.heap[g]? = some (.cells #[.slice A ([] : List S44).length c] 80 (0, 0)) := by rw [← hW1]; exact blk_alloc hb _
  have hz : W1.heap[w.heap.size]? = some (.cells #[.int .i64 0, .string ⟨#[]⟩, .slice none 0 0] 44 (0, 0)) := by rw [← hW1]; exact blk_new _ _
  have hB : Below w.heap.size w W1 := by rw [← hW1]; exact (Below.refl _ w).alloc (Nat.le_refl _) _
  rw [hW1]; clear hW1; have hc := rd_cell hb1; obtain ⟨z0, z1, z2, f0, f1, f2⟩ := blk3 hz
  go_wp2
  refine bodyPost_ret (results_ct rfl _ _ w.heap.size 44 #[.int .i64 0, .string ⟨#[]⟩, .slice none 0 0] (0, 0) _ rfl (q17 (q17 (q17 hz 0 _ rfl) 1 _ rfl) 2 _ rfl) Try.underlying44 rfl (by kernel_rfl)) rfl ?_; exact ⟨rfl, ((hB.setCell (p := ⟨w.heap.size, 0, none⟩) (Nat.le_refl _) _).setCell (p := ⟨w.heap.size, 1, none⟩) (Nat.le_refl _) _).setCell (p := ⟨w.heap.size, 2, none⟩) (Nat.le_refl _) _⟩
theorem F_old {W W1 : World} {ok : Nat → Prop} {A : Option Addr} {n : Nat} {xs : List S44} {B : Nat} (h : Kd.F k44 W (fun k => ok k ∧ k < B) A n xs) (hb : Below B W W1) : Kd.F k44 W1 (fun k => ok k ∧ k < B) A n xs :=
  Kd.F_step h fun k hk _ => hb.block k hk.2
set_option maxHeartbeats 4000000 in
set_option maxRecDepth 100000 in
theorem meta_next.cons (g B : Nat) (ok : Nat → Prop) (x : S44) (r : List S44) (w : World) (hB : B ≤ g) (h : IsRd w g (fun k => ok k ∧ k < B) (x :: r)) :
    Calls Try.prog 60 #[.pointer (some ⟨g, 0, none⟩)] w fun e w' => (∃ A2 c2, e = .returned (.tuple #[.agg #[.int .i64 x.f0, .string x.f1, .slice A2 x.f2.length c2], .bool true]) ∧ x.f2.length ≤ c2 ∧ Kd.F k44 w' (fun k => ok k ∧ k < B) A2 x.f2.length x.f2) ∧
      IsRd w' g (fun k => ok k ∧ k < B) r ∧ Below B w w' ∧ q27 w w' g none := by
  obtain ⟨A, c, hb, hl, hF⟩ := h; have info44' := info44; have hu44 := Try.underlying44; have hlt : g < w.heap.size := blk_lt hb
  go_enter Try.func60, Try.ntmps60
  go_upto_region 1 with (fail)
  obtain ⟨W1, hW1⟩ : ∃ W1, w.alloc (.cells #[.int .i64 0, .string ⟨#[]⟩, .slice none 0 0] 44) = W1 := ⟨_, rfl⟩
  have hb1 : W1.heap[g]? = some (.cells #[.slice A (x :: r).length c] 80 (0, 0)) := by rw [← hW1]; exact blk_alloc hb _
  have hz : W1.heap[w.heap.size]? = some (.cells #[.int .i64 0, .string ⟨#[]⟩, .slice none 0 0] 44 (0, 0)) := by rw [← hW1]; exact blk_new _ _
  have hB1 : Below w.heap.size w W1 := by rw [← hW1]; exact (Below.refl _ w).alloc (Nat.le_refl _) _
  have hs1 : W1.heap.size = w.heap.size + 1 := by rw [← hW1]; simp
  rw [hW1]; clear hW1; obtain ⟨ad, cs, rfl, hcl, hFK, hcc, hok⟩ := Kd.F_get hF z44 0 (by omega) (by simp)
  have hadB : ad.block < w.heap.size := by have := (hok (by decide)).2; omega
  obtain ⟨A2, c2, rfl, hl2, hF2⟩ := k44_openF hFK; have hc1 := rd_cell hb1
  have hlen0 : ¬ ((x :: r).length : Int) = 0 := by simp only [List.length_cons]; omega
  have hd0 : decide (((x :: r).length : Int) = 0) = false := decide_eq_false hlen0; have hq0 : (((x :: r).length : Int) == 0) = false := beq_eq_false_iff_ne.2 hlen0
  have hi0 : (0 : Int) < ((x :: r).length : Int) := by simp only [List.length_cons]; omega
  have hi1 : 0 < (x :: r).length := by simp only [List.length_cons]; omega
  have e0 : W1.cell? ad = some (.int .i64 x.f0) := (hB1.cell (p := ad) hadB).trans (by simpa [Addr.add] using hcc 0 _ rfl); have e1 : W1.cell? ⟨ad.block, ad.off + 1, none⟩ = some (.string x.f1) := (hB1.cell (p := ⟨ad.block, ad.off + 1, none⟩) hadB).trans (by simpa [Addr.add] using hcc 1 _ rfl); have e2 : W1.cell? ⟨ad.block, ad.off + 2, none⟩ = some (.slice A2 x.f2.length c2) := (hB1.cell (p := ⟨ad.block, ad.off + 2, none⟩) hadB).trans (by simpa [Addr.add] using hcc 2 _ rfl); have HF2 := Aside0.mk hF2; have HCC := Aside0.mk hcc; have HFK := Aside0.mk hFK; have HF := Aside0.mk hF; have HZ := Aside0.mk hz; have HBB := Aside0.mk hb1; have HB1 := Aside0.mk hB1; clear hF2 hcc hFK hF hz hb1 hB1 hok hcl hb
  go_upto_region 4 with (fail)
  obtain ⟨W2, hW2⟩ : ∃ W2, W1.alloc (.cells #[.int .i64 x.f0, .string x.f1, .slice A2 x.f2.length c2] 44) = W2 := ⟨_, rfl⟩
  have hb2 : W2.heap[g]? = some (.cells #[.slice (some ad) (x :: r).length c] 80 (0, 0)) := by rw [← hW2]; exact blk_alloc HBB.out _
  have hz2 : W2.heap[w.heap.size]? = some (.cells #[.int .i64 0, .string ⟨#[]⟩, .slice none 0 0] 44 (0, 0)) := by rw [← hW2]; exact blk_alloc HZ.out _
  have ht2 : W2.heap[w.heap.size + 1]? = some (.cells #[.int .i64 x.f0, .string x.f1, .slice A2 x.f2.length c2] 44 (0, 0)) := by rw [← hW2, ← hs1]; exact blk_new _ _
  have hB2 : Below w.heap.size w W2 := by rw [← hW2]; exact HB1.out.alloc (by omega) _
  have hs2 : W2.heap.size = w.heap.size + 2 := by rw [← hW2]; simp [hs1]
  rw [hW2]; clear hW2 hc1 e0 e1 e2; have hc2 := rd_cell hb2; have hf2 := q11 hb2 0
  have hl1 : (1 : Int) ≤ ((x :: r).length : Int) := by simp only [List.length_cons]; omega
  have HB2 := Aside0.mk hb2; have HZ2 := Aside0.mk hz2; have HT2 := Aside0.mk ht2; have HBB2 := Aside0.mk hB2; clear hb2 hz2 ht2 hB2; simp only [List.length_cons] at hc2 hl hl1
  go_upto_region 5 with (fail)
  generalize hAn : (if c = 1 then some ad else some (⟨ad.block, ad.off + 3, none⟩ : Addr)) = An
  obtain ⟨W3, hW3⟩ : ∃ W3, W2.setCell ⟨g, 0, none⟩ (.slice An r.length (c - 1)) = W3 := ⟨_, rfl⟩
  have hb3 : W3.heap[g]? = some (.cells #[.slice An r.length (c - 1)] 80 (0, 0)) := by rw [← hW3]; exact q17 HB2.out 0 _ rfl
  have hz3 : W3.heap[w.heap.size]? = some (.cells #[.int .i64 0, .string ⟨#[]⟩, .slice none 0 0] 44 (0, 0)) := by rw [← hW3]; exact blk_far HZ2.out (by simp; omega) _
  have ht3 : W3.heap[w.heap.size + 1]? = some (.cells #[.int .i64 x.f0, .string x.f1, .slice A2 x.f2.length c2] 44 (0, 0)) := by rw [← hW3]; exact blk_far HT2.out (by simp; omega) _
  have hB3 : Below B w W3 := by rw [← hW3]; exact (HBB2.out.mono (by omega)).setCell (by simpa using hB) _
  have hK3 : q27 w W3 g none := by rw [← hW3]; exact (q27.of_below HBB2.out g none).set_ 0 _
  have hs3 : W3.heap.size = w.heap.size + 2 := by rw [← hW3]; simpa [World.setCell] using hs2
  rw [hW3]; clear hW3 hc2 hf2; obtain ⟨z0, z1, z2, f0, f1, f2⟩ := blk3 hz3; obtain ⟨t0, t1, t2, _, _, _⟩ := blk3 ht3; have HB3 := Aside0.mk hb3; have HZ3 := Aside0.mk hz3; have HBB3 := Aside0.mk hB3; have HK3 := Aside0.mk hK3; clear hb3 hz3 ht3 hB3 hK3
  go_wp2
  refine bodyPost_ret (results_ct rfl _ _ w.heap.size 44 #[.int .i64 x.f0, .string x.f1, .slice A2 x.f2.length c2] (0, 0) _ rfl (q17 (q17 (q17 HZ3.out 0 _ rfl) 1 _ rfl) 2 _ rfl) Try.underlying44 rfl (by kernel_rfl)) rfl ?_; have hbf := ((HBB3.out.setCell (p := ⟨w.heap.size, 0, none⟩) (by simp; omega) (.int .i64 x.f0)).setCell (p := ⟨w.heap.size, 1, none⟩) (by simp; omega) (.string x.f1)).setCell (p := ⟨w.heap.size, 2, none⟩) (by simp; omega) (.slice A2 x.f2.length c2); have hb4 := blk_far (blk_far (blk_far HB3.out (p := ⟨w.heap.size, 0, none⟩) (by simp; omega) (.int .i64 x.f0)) (p := ⟨w.heap.size, 1, none⟩) (by simp; omega) (.string x.f1)) (p := ⟨w.heap.size, 2, none⟩) (by simp; omega) (.slice A2 x.f2.length c2); have hcut := Kd.F_cut (m := 1) HF.out (by simp) (show (x :: r).length ≤ c by simp only [List.length_cons]; omega); refine ⟨⟨A2, c2, rfl, hl2, F_old HF2.out hbf⟩, ⟨_, _, hb4, by omega, F_old ?_ hbf⟩, hbf, ?_⟩
  · have e : (if c = 1 then some ad else (some ad).map (·.add (1 * k44.sz))) = (if c = 1 then some ad else some ⟨ad.block, ad.off + 3, none⟩) := rfl; rw [e, hAn] at hcut; exact hcut
  · refine ⟨hbf.size, fun i hi hg hn => ?_⟩; rw [Below.heap_setCell _ _ _ _ (by simp; omega), Below.heap_setCell _ _ _ _ (by simp; omega), Below.heap_setCell _ _ _ _ (by simp; omega)]; exact HK3.out.2 i hi hg hn
theorem F_empty {W : World} {ok : Nat → Prop} {A : Option Addr} (ok' : Nat → Prop) (n : Nat) (h : Kd.F k44 W ok A ([] : List S44).length []) : Kd.F k44 W (fun _ => False) A ([] : List S44).length [] := fun W' _ => ⟨rfl, by simp, fun h => absurd h (Nat.lt_irrefl 0)⟩
theorem IsRd.below {W W' : World} {g : Nat} {ok : Nat → Prop} {l : List S44} (h : IsRd W g ok l) (hb : Below W.heap.size W W') : IsRd W' g ok l := by
  obtain ⟨A, c, h1, h2, h3⟩ := h; exact ⟨A, c, q16 h1 hb, h2, Kd.F_step h3 fun k _ hk => hb.block k hk⟩
set_option maxHeartbeats 4000000 in
set_option maxRecDepth 100000 in
theorem meta_starred.nil (g : Nat) (ok : Nat → Prop) (w : World) (h : IsRd w g ok []) :
    Calls Try.prog 62 #[.pointer (some ⟨g, 0, none⟩)] w fun e w' => e = .returned (.tuple #[.agg #[.int .i64 0, .string ⟨#[]⟩, .slice none 0 0], .bool false]) ∧ Below w.heap.size w w' := by
  have info44' := info44; have hu44 := Try.underlying44
  go_enter Try.func62, Try.ntmps62
  go_upto_region 1 with (fail)
  obtain ⟨W1, hW1⟩ : ∃ W1, w.alloc (.cells #[.int .i64 0, .string ⟨#[]⟩, .slice none 0 0] 44) = W1 := ⟨_, rfl⟩
  have hr1 : IsRd W1 g ok [] := by rw [← hW1]; exact h.below ((Below.refl _ w).alloc (Nat.le_refl _) _)
  have hz1 : W1.heap[w.heap.size]? = some (.cells #[.int .i64 0, .string ⟨#[]⟩, .slice none 0 0] 44 (0, 0)) := by rw [← hW1]; exact blk_new _ _
  have hB1 : Below w.heap.size w W1 := by rw [← hW1]; exact (Below.refl _ w).alloc (Nat.le_refl _) _
  have hs1 : W1.heap.size = w.heap.size + 1 := by rw [← hW1]; simp
  rw [hW1]; clear hW1
  go_upto_region 2 with (go_at_call 60; refine (meta_next.nil g ok W1 hr1).mono ?_; rintro e w2 ⟨rfl, hb⟩)
  obtain ⟨W2, hW2⟩ : ∃ W2, w2.alloc (.cells #[.int .i64 0, .string ⟨#[]⟩, .slice none 0 0] 44) = W2 := ⟨_, rfl⟩; have hb2 : Below w.heap.size w w2 := hB1.trans (hb.mono (by omega))
  have hz2 : W2.heap[w.heap.size]? = some (.cells #[.int .i64 0, .string ⟨#[]⟩, .slice none 0 0] 44 (0, 0)) := by rw [← hW2]; exact blk_alloc (q16 hz1 hb) _
  have hB2 : Below w.heap.size w W2 := by rw [← hW2]; exact hb2.alloc hb2.size _
  rw [hW2]; clear hW2; obtain ⟨z0, z1, z2, f0, f1, f2⟩ := blk3 hz2
  go_wp2
  refine bodyPost_ret (results_ct rfl _ _ w.heap.size 44 #[.int .i64 0, .string ⟨#[]⟩, .slice none 0 0] (0, 0) _ rfl (q17 (q17 (q17 hz2 0 _ rfl) 1 _ rfl) 2 _ rfl) Try.underlying44 rfl (by kernel_rfl)) rfl ?_; exact ⟨rfl, ((hB2.setCell (p := ⟨w.heap.size, 0, none⟩) (Nat.le_refl _) _).setCell (p := ⟨w.heap.size, 1, none⟩) (Nat.le_refl _) _).setCell (p := ⟨w.heap.size, 2, none⟩) (Nat.le_refl _) _⟩
def StarPost (g B : Nat) (ok : Nat → Prop) (r : S44 × List S44 × Bool) (w : World) (e : Ending) (w' : World) : Prop :=
  (∃ A2 c2, e = .returned (.tuple #[.agg #[.int .i64 r.1.f0, .string r.1.f1, .slice A2 r.1.f2.length c2], .bool r.2.2]) ∧ r.1.f2.length ≤ c2 ∧ Kd.F k44 w' (fun k => (ok k ∧ k < B) ∨ w.heap.size ≤ k) A2 r.1.f2.length r.1.f2) ∧
    IsRd w' g (fun k => ok k ∧ k < B) r.2.1 ∧ Below B w w' ∧ q27 w w' g none
theorem set3 (W : World) (z : Nat) (a b c : Value) : ∀ k, k ≠ z → (((W.setCell ⟨z, 0, none⟩ a).setCell ⟨z, 1, none⟩ b).setCell ⟨z, 2, none⟩ c).heap[k]? = W.heap[k]? := fun k hk => by
  rw [Below.heap_setCell _ _ _ _ (by simpa using hk), Below.heap_setCell _ _ _ _ (by simpa using hk), Below.heap_setCell _ _ _ _ (by simpa using hk)]
theorem below_set3 {B : Nat} {w W : World} (h : Below B w W) (z : Nat) (hz : B ≤ z) (a b c : Value) : Below B w (((W.setCell ⟨z, 0, none⟩ a).setCell ⟨z, 1, none⟩ b).setCell ⟨z, 2, none⟩ c) :=
  ((h.setCell (p := ⟨z, 0, none⟩) hz a).setCell (p := ⟨z, 1, none⟩) hz b).setCell (p := ⟨z, 2, none⟩) hz c
theorem star_end {g B : Nat} {ok : Nat → Prop} {r : S44 × List S44 × Bool} {w W : World} {A2 : Option Addr} {c2 : Nat} (hB : Below B w W) (hK : q27 w W g none) (hBz : B ≤ w.heap.size) (hgz : g < w.heap.size) (hR : IsRd W g (fun k => ok k ∧ k < B) r.2.1)
    (hl : r.1.f2.length ≤ c2) (hF : Kd.F k44 W (fun k => ((ok k ∧ k < B) ∨ w.heap.size ≤ k) ∧ k ≠ w.heap.size) A2 r.1.f2.length r.1.f2) :
    StarPost g B ok r w (.returned (.tuple #[.agg #[.int .i64 r.1.f0, .string r.1.f1, .slice A2 r.1.f2.length c2], .bool r.2.2]))
      (((W.setCell ⟨w.heap.size, 0, none⟩ (.int .i64 r.1.f0)).setCell ⟨w.heap.size, 1, none⟩ (.string r.1.f1)).setCell ⟨w.heap.size, 2, none⟩ (.slice A2 r.1.f2.length c2)) := by
  have hs := set3 W w.heap.size (.int .i64 r.1.f0) (.string r.1.f1) (.slice A2 r.1.f2.length c2); refine ⟨⟨A2, c2, rfl, hl, Kd.F_mono (Kd.F_step hF fun k hk _ => hs k hk.2) fun k hk => hk.1⟩, ?_, below_set3 hB _ hBz _ _ _, (below_set3 hB _ hBz _ _ _).size, fun i hi hg hn => ?_⟩
  · obtain ⟨A, c, h1, h2, h3⟩ := hR; exact ⟨A, c, (hs g (by omega)).trans h1, h2, Kd.F_step h3 fun k hk _ => hs k (by have := hk.2; omega)⟩
  · rw [hs i (by omega)]; exact hK.2 i hi hg hn
theorem ent_of {e : MapEntry} (h : e ∈ letEntries.toList) : ∃ k, (5 ≤ k ∧ k ≤ 7) ∧ e.key = .int .i64 k ∧ e.val = .string (meta_letter k) := by
  simp [letEntries] at h
  rcases h with rfl | rfl | rfl
  · exact ⟨5, by decide, rfl, rfl⟩
  · exact ⟨6, by decide, rfl, rfl⟩
  · exact ⟨7, by decide, rfl, rfl⟩
theorem ent_has {k : Int} (h : 5 ≤ k ∧ k ≤ 7) : ∃ e ∈ letEntries.toList, e.key = .int .i64 k := by
  have : k = 5 ∨ k = 6 ∨ k = 7 := by omega
  rcases this with rfl | rfl | rfl
  · exact ⟨{ key := .int .i64 5, val := .string ⟨#[83]⟩, born := 0 }, by simp [letEntries], rfl⟩
  · exact ⟨{ key := .int .i64 6, val := .string ⟨#[84]⟩, born := 1 }, by simp [letEntries], rfl⟩
  · exact ⟨{ key := .int .i64 7, val := .string ⟨#[69]⟩, born := 2 }, by simp [letEntries], rfl⟩
theorem ent_old : ∀ e ∈ letEntries.toList, e.born < 3 := by
  intro e h; simp [letEntries] at h
  rcases h with rfl | rfl | rfl <;> decide
theorem ent_nodup : (letEntries.toList.map (·.born)).Nodup := by simp [letEntries]
theorem iter_step {W w1 : World} {I : Nat} {m : Option Nat} {s c : Nat} {seen : Array Nat} (h : W.heap[I]? = some (.mapIter m s seen c)) (h1 : w1 = W ∨ w1 = W.drew) (o : Obj) :
    (Go.ChangeMaps.setBlock w1 I o).heap[I]? = some o ∧ (∀ k, k ≠ I → (Go.ChangeMaps.setBlock w1 I o).heap[k]? = W.heap[k]?) ∧ (∀ B, B ≤ I → Below B W (Go.ChangeMaps.setBlock w1 I o)) := by
  have hh : w1.heap = W.heap := by rcases h1 with rfl | rfl <;> rfl
  have hlt := (Array.getElem?_eq_some_iff.1 h).1
  have hs : (Go.ChangeMaps.setBlock w1 I o).heap = W.heap.setIfInBounds I o := by show w1.heap.setIfInBounds I o = _; rw [hh]
  refine ⟨by rw [hs, Array.getElem?_setIfInBounds_self_of_lt hlt], fun k hk => by rw [hs, Array.getElem?_setIfInBounds_ne (by omega)], fun B hB => ?_⟩; refine ⟨by rcases h1 with rfl | rfl <;> rfl, by rcases h1 with rfl | rfl <;> rfl, by rcases h1 with rfl | rfl <;> rfl, by rw [hs]; simp, fun k hk => by rw [hs, Array.getElem?_setIfInBounds_ne (by omega)]⟩
theorem star_drew {g B : Nat} {ok : Nat → Prop} {r : S44 × List S44 × Bool} {w w' : World} {e : Ending} (h : StarPost g B ok r w e w') : StarPost g B ok r w e w'.drew := by
  obtain ⟨⟨A2, c2, h1, h2, h3⟩, ⟨A, c, h4, h5, h6⟩, h7, h8⟩ := h; exact ⟨⟨A2, c2, h1, h2, Kd.F_drew h3⟩, ⟨A, c, blk_drew h4, h5, Kd.F_drew h6⟩, below_drew h7, ⟨h8.1, h8.2⟩⟩
def isCharB (x : S44) (s : List UInt8) : Bool := decide (x.f0 = 1) && (x.f1.toList == s)
theorem isChar_eq (x : S44) (s : ByteArray) : meta_isChar.f x.f0 x.f1 x.f2 s = some (isCharB x s.toList) := by
  unfold meta_isChar.f isCharB
  by_cases c : x.f0 = 1
  · simp [c]
  · simp [c]
set_option maxHeartbeats 4000000 in
set_option maxRecDepth 100000 in
theorem meta_starred.cons (g B : Nat) (ok : Nat → Prop) (x : S44) (l : List S44) (w : World) (hB : B ≤ g) (h : IsRd w g (fun k => ok k ∧ k < B) (x :: l)) (D : List S44 → Option (List S44 × Bool))
    (ih : ∀ (P : Nat → Prop) (A : Option Addr) (c : Nat) (m : List S44) (q1 : List S44) (q2 : Bool) (W : World), Kd.V k44 44 W W.heap.size P (.slice A m.length c) m → D m = some (q1, q2) →
      Calls Try.prog 36 #[.slice A m.length c] W fun e w' => ∃ v0_ : Value, e = .returned (.tuple #[v0_, .bool q2]) ∧ Kd.N k44 44 w' W.heap.size (fun k_ => P k_ ∨ W.heap.size ≤ k_) v0_ q1 ∧ Below W.heap.size W w')
    (r : S44 × List S44 × Bool) (hr : isCharB x [86] = true → r = (⟨1, ⟨#[42]⟩, []⟩, l, true)) (hg0 : ¬ isCharB x [86] = true → x.f0 = 4 → x.f2 = [] → r = (z44, l, false)) (hg1 : ¬ isCharB x [86] = true → x.f0 = 4 → ∀ wd ks, x.f2 = wd :: ks → ¬ wd.f0 = 2 → r = (z44, l, false))
    (hg2 : ¬ isCharB x [86] = true → x.f0 = 4 → ∀ wd ks, x.f2 = wd :: ks → wd.f0 = 2 → ∃ q1 q2, D ks = some (q1, q2) ∧ r = (⟨8, wd.f1, q1⟩, l, q2))
    (hv0 : ¬ isCharB x [86] = true → ¬ x.f0 = 4 → (∀ k, (5 ≤ k ∧ k ≤ 7) → isCharB x (meta_letter k).toList = false) → r = (z44, l, false))
    (hv1 : ¬ isCharB x [86] = true → ¬ x.f0 = 4 → ∀ k, (5 ≤ k ∧ k ≤ 7) → isCharB x (meta_letter k).toList = true → r = match l with | [] => (⟨k, ⟨#[]⟩, []⟩, [], false) | n :: l2 => (⟨k, n.f1, []⟩, l2, decide (n.f0 = 2))) :
    Calls Try.prog 62 #[.pointer (some ⟨g, 0, none⟩)] w fun e w' => StarPost g B ok r w e w' := by
  have info44' := info44; have hu44 := Try.underlying44
  have hlt : g < w.heap.size := by obtain ⟨_, _, h1, _⟩ := h; exact blk_lt h1
  go_enter Try.func62, Try.ntmps62
  go_upto_region 1 with (fail)
  obtain ⟨W1, hW1⟩ : ∃ W1, w.alloc (.cells #[.int .i64 0, .string ⟨#[]⟩, .slice none 0 0] 44) = W1 := ⟨_, rfl⟩
  have hr1 : IsRd W1 g (fun k => ok k ∧ k < B) (x :: l) := by rw [← hW1]; exact h.below ((Below.refl _ w).alloc (Nat.le_refl _) _)
  have hz1 : W1.heap[w.heap.size]? = some (.cells #[.int .i64 0, .string ⟨#[]⟩, .slice none 0 0] 44 (0, 0)) := by rw [← hW1]; exact blk_new _ _
  have hB1 : Below w.heap.size w W1 := by rw [← hW1]; exact (Below.refl _ w).alloc (Nat.le_refl _) _
  have hs1 : W1.heap.size = w.heap.size + 1 := by rw [← hW1]; simp
  rw [hW1]; clear hW1; have HZ1 := Aside0.mk hz1; have HB1 := Aside0.mk hB1; have HR1 := Aside0.mk hr1; clear hz1 hB1 hr1 h
  go_upto_region 2 with (go_at_call 60; refine (meta_next.cons g B ok x l W1 hB HR1.out).mono ?_; rintro e w2 ⟨⟨A2, c2, rfl, hl2, hF2⟩, hR2, hb2, hk2⟩)
  obtain ⟨W2, hW2⟩ : ∃ W2, w2.alloc (.cells #[.int .i64 x.f0, .string x.f1, .slice A2 x.f2.length c2] 44) = W2 := ⟨_, rfl⟩; have hs2 := hk2.1
  have ht3 : W2.heap[w2.heap.size]? = some (.cells #[.int .i64 x.f0, .string x.f1, .slice A2 x.f2.length c2] 44 (0, 0)) := by rw [← hW2]; exact blk_new _ _
  have hz3 : W2.heap[w.heap.size]? = some (.cells #[.int .i64 0, .string ⟨#[]⟩, .slice none 0 0] 44 (0, 0)) := by
    rw [← hW2]; exact blk_alloc ((hk2.2 _ (by omega) (by omega) (by simp)).trans HZ1.out) _
  have hB3 : Below B w W2 := by rw [← hW2]; exact ((HB1.out.mono (by omega)).trans hb2).alloc (by omega) _
  have hK3 : q27 w W2 g none := by
    rw [← hW2]; refine ⟨by simp; omega, fun i hi hg hn => ?_⟩; rw [Below.heap_alloc _ _ _ (by omega), hk2.2 i (by omega) hg hn]; exact HB1.out.block i hi
  have hR3 : IsRd W2 g (fun k => ok k ∧ k < B) l := by rw [← hW2]; exact hR2.below ((Below.refl _ w2).alloc (Nat.le_refl _) _)
  have hF3 : Kd.F k44 W2 (fun k => ok k ∧ k < B) A2 x.f2.length x.f2 := F_old hF2 (by rw [← hW2]; exact (Below.refl _ w2).alloc (by omega) _)
  have hs3 : W2.heap.size = w2.heap.size + 1 := by rw [← hW2]; simp
  rw [hW2]; clear hW2 hF2 hR2 hb2 hk2; obtain ⟨z0, z1, z2, f0, f1, f2⟩ := blk3 hz3; obtain ⟨t0, t1, t2, tf0, tf1, tf2⟩ := blk3 ht3; have HZ3 := Aside0.mk hz3; have HT3 := Aside0.mk ht3; have HB3 := Aside0.mk hB3; have HK3 := Aside0.mk hK3; have HR3 := Aside0.mk hR3; have HF3 := Aside0.mk hF3; clear hz3 ht3 hB3 hK3 hR3 hF3
  by_cases cv : isCharB x [86] = true
  · go_upto_region 5 with (go_at_call 61; refine (meta_isChar.calls x.f0 x.f1 A2 c2 x.f2 ⟨#[86]⟩ true W2 (Kd.F_now HF3.out) hl2 ((isChar_eq x ⟨#[86]⟩).trans (by rw [Go.ByteArray.toList_eq]; exact congrArg some cv))).mono ?_; rintro e w4 ⟨rfl, hb4⟩)
    obtain rfl := hr cv; have hz4 := q16 HZ3.out hb4; have hBg : Below B w w4 := HB3.out.trans (hb4.mono (by omega)); have hKg : q27 w w4 g none := HK3.out.trans (q27.of_below hb4 g none) (.inl rfl); have hR4 := HR3.out.below hb4; have hs4 := hb4.size; clear z0 z1 z2 f0 f1 f2 t0 t1 t2 tf0 tf1 tf2 hb4
    go_wp2_with (go_at_call 51; refine (meta_char.calls ⟨#[42]⟩ 1 ⟨#[42]⟩ [] w4 rfl).mono ?_; rintro e w5 ⟨v2, rfl, hv2, hb5⟩; obtain ⟨A5, c5, rfl⟩ := Kd.R_slice hv2; obtain ⟨z0, z1, z2, f0, f1, f2⟩ := blk3 (q16 hz4 hb5))
    have hz5 := q16 hz4 hb5; have hs5 := hb5.size; refine bodyPost_ret (results_ct rfl _ _ w.heap.size 44 #[.int .i64 1, .string ⟨#[42]⟩, .slice A5 ([] : List S44).length c5] (0, 0) _ rfl (q17 (q17 (q17 hz5 0 _ rfl) 1 _ rfl) 2 _ rfl) Try.underlying44 rfl (by kernel_rfl)) rfl ?_; have hNF := Kd.N_F (Kd.R_N hv2); exact star_end (r := (⟨1, ⟨#[42]⟩, []⟩, l, true)) (hBg.trans (hb5.mono (by omega))) (hKg.trans (q27.of_below hb5 g none) (.inl rfl)) (by omega) hlt (hR4.below hb5) (by simp) (Kd.F_mono (F_empty ok 0 hNF) fun k hk => hk.elim)
  · go_upto_region 6 with (go_at_call 61; refine (meta_isChar.calls x.f0 x.f1 A2 c2 x.f2 ⟨#[86]⟩ false W2 (Kd.F_now HF3.out) hl2 ((isChar_eq x ⟨#[86]⟩).trans (by rw [Go.ByteArray.toList_eq]; exact congrArg some (Bool.eq_false_iff.2 cv)))).mono ?_; rintro e w4 ⟨rfl, hb4⟩)
    have hz4 := q16 HZ3.out hb4; have ht4 := q16 HT3.out hb4; have hB4 : Below B w w4 := HB3.out.trans (hb4.mono (by omega)); have hK4 : q27 w w4 g none := HK3.out.trans (q27.of_below hb4 g none) (.inl rfl); have hR4 := HR3.out.below hb4; have hF4 := F_old HF3.out (hb4.mono (by omega)); have hs4 := hb4.size; clear z0 z1 z2 f0 f1 f2 t0 t1 t2 tf0 tf1 tf2 hb4 HZ3 HT3 HB3 HK3 HR3 HF3; obtain ⟨z0, z1, z2, f0, f1, f2⟩ := blk3 hz4; obtain ⟨t0, t1, t2, tf0, tf1, tf2⟩ := blk3 ht4; have HZ4 := Aside0.mk hz4; have HT4 := Aside0.mk ht4; have HB4 := Aside0.mk hB4; have HK4 := Aside0.mk hK4; have HR4 := Aside0.mk hR4; have HF4 := Aside0.mk hF4; clear hz4 ht4 hB4 hK4 hR4 hF4
    by_cases c4 : x.f0 = 4
    · have c4b : (x.f0 == 4) = true := beq_iff_eq.2 c4
      rcases hks : x.f2 with _ | ⟨wd, ks⟩
      · have hl0 : ((x.f2.length : Int) == 0) = true := by rw [hks]; rfl
        have hl0' : (x.f2.length : Int) = 0 := by rw [hks]; rfl
        obtain rfl := hg0 cv c4 hks
        go_wp2
        refine bodyPost_ret (results_ct rfl _ _ w.heap.size 44 #[.int .i64 0, .string ⟨#[]⟩, .slice none 0 0] (0, 0) _ rfl (q17 (q17 (q17 HZ4.out 0 _ rfl) 1 _ rfl) 2 _ rfl) Try.underlying44 rfl (by kernel_rfl)) rfl ?_; exact star_end (r := (z44, l, false)) HB4.out HK4.out (by omega) hlt HR4.out (by simp [z44]) (Kd.F_nil k44 w4 _)
      · have hl0 : ((x.f2.length : Int) == 0) = false := beq_eq_false_iff_ne.2 (by rw [hks]; simp only [List.length_cons]; omega)
        have hi0 : (0 : Int) < (x.f2.length : Int) := by rw [hks]; simp only [List.length_cons]; omega
        have hi1 : 0 < x.f2.length := by rw [hks]; simp
        obtain ⟨ad, cs, rfl, hcl, hFK, hcc, hok⟩ := Kd.F_get HF4.out z44 0 (by omega) hi0; rw [hks] at hFK; obtain ⟨A6, c6, rfl, hl6, hF6⟩ := k44_openF hFK
        have e0 : w4.cell? ad = some (.int .i64 wd.f0) := by simpa [Addr.add] using hcc 0 _ rfl
        have e1 : w4.cell? ⟨ad.block, ad.off + 1, none⟩ = some (.string wd.f1) := by simpa [Addr.add] using hcc 1 _ rfl
        clear hcc hFK hF6 hcl
        by_cases cw : wd.f0 = 2
        · have cwb : (wd.f0 != 2) = false := by simp [cw]
          obtain ⟨q1, q2, hdn, rfl⟩ := hg2 cv c4 wd ks hks cw
          have hl1 : (1 : Int) ≤ (x.f2.length : Int) := by omega
          have hcut := Kd.F_cut (m := 1) HF4.out (by omega) hl2; have eA : (if c2 = 1 then some ad else (some ad).map (·.add (1 * k44.sz))) = (if c2 = 1 then some ad else some ⟨ad.block, ad.off + 3, none⟩) := rfl; rw [eA] at hcut
          have hd1 : x.f2.drop 1 = ks := by rw [hks]; rfl
          rw [hd1] at hcut
          have hlc : ks.length ≤ c2 - 1 := by rw [hks] at hl2; simp only [List.length_cons] at hl2; omega
          have HCUT := Aside0.mk hcut; clear hcut
          go_upto_region 9 with (fail)
          generalize hAn : (if c2 = 1 then some ad else some (⟨ad.block, ad.off + 3, none⟩ : Addr)) = An
          have hcut := HCUT.out; rw [hAn] at hcut
          have hadB : ad.block < w4.heap.size := by have := (hok (by decide)).2; omega
          go_upto_region 10 with (go_at_call 36; refine (ih (fun k => ok k ∧ k < B) An (c2 - 1) ks q1 q2 w4 (Kd.V_mk hlc hcut) hdn).mono ?_; rintro e w5 ⟨v0, rfl, hN, hb5⟩)
          obtain ⟨A5, c5, rfl⟩ := Kd.N_slice hN; have hF5 := Kd.N_F hN; have hl5 := (Kd.N_reads' hN).2.1; have hz5 := q16 HZ4.out hb5; have ht5 := q16 HT4.out hb5; have hs5 := hb5.size; have e05 : w5.cell? ad = some (.int .i64 wd.f0) := (hb5.cell (p := ad) hadB).trans e0; have e15 : w5.cell? ⟨ad.block, ad.off + 1, none⟩ = some (.string wd.f1) := (hb5.cell (p := ⟨ad.block, ad.off + 1, none⟩) hadB).trans e1; have HB5 := Aside0.mk hb5; clear z0 z1 z2 f0 f1 f2 t0 t1 t2 tf0 tf1 tf2 hb5 e0 e1 hN hcut; obtain ⟨z0, z1, z2, f0, f1, f2⟩ := blk3 hz5; obtain ⟨t0, t1, t2, tf0, tf1, tf2⟩ := blk3 ht5
          go_wp2
          refine bodyPost_ret (results_ct rfl _ _ w.heap.size 44 #[.int .i64 8, .string wd.f1, .slice A5 q1.length c5] (0, 0) _ rfl (q17 (q17 (q17 hz5 0 _ rfl) 1 _ rfl) 2 _ rfl) Try.underlying44 rfl (by kernel_rfl)) rfl ?_; exact star_end (r := (⟨8, wd.f1, q1⟩, l, q2)) (HB4.out.trans (HB5.out.mono (by omega))) (HK4.out.trans (q27.of_below HB5.out g none) (.inl rfl)) (by omega) hlt (HR4.out.below HB5.out) hl5
            (Kd.F_mono hF5 fun k hk => ⟨hk.elim (fun h => .inl h) (fun h => .inr (by omega)), by rcases hk with h | h; have := h.2; omega; omega⟩)
        · have cwb : (wd.f0 != 2) = true := by simp [cw]
          obtain rfl := hg1 cv c4 wd ks hks cw
          go_wp2
          refine bodyPost_ret (results_ct rfl _ _ w.heap.size 44 #[.int .i64 0, .string ⟨#[]⟩, .slice none 0 0] (0, 0) _ rfl (q17 (q17 (q17 HZ4.out 0 _ rfl) 1 _ rfl) 2 _ rfl) Try.underlying44 rfl (by kernel_rfl)) rfl ?_; exact star_end (r := (z44, l, false)) HB4.out HK4.out (by omega) hlt HR4.out (by simp [z44]) (Kd.F_nil k44 w4 _)
    · have c4b : (x.f0 == 4) = false := beq_eq_false_iff_ne.2 c4; have hrg4 := run_range_map (P := Try.prog) (w4.alloc (.map letEntries 3)) 72 3 9 w4.heap.size letEntries 3 Try.underlying72 (blk_new _ _)
      go_upto_block 1 with (go_at_call 53; refine (meta_letters.map w4).mono ?_; rintro e w5 ⟨rfl, rfl⟩)
      obtain ⟨W5, hW5⟩ : ∃ W5, (w4.alloc (.map letEntries 3)).alloc (.mapIter (some w4.heap.size) 3 #[] 3) = W5 := ⟨_, rfl⟩
      have hm5 : W5.heap[w4.heap.size]? = some (.map letEntries 3) := by rw [← hW5]; exact blk_alloc (blk_new _ _) _
      have hi5 : W5.heap[w4.heap.size + 1]? = some (.mapIter (some w4.heap.size) 3 #[] 3) := by
        rw [← hW5]; have := blk_new (w4.alloc (.map letEntries 3)) (.mapIter (some w4.heap.size) 3 #[] 3)
        simpa using this
      have hb5 : Below w4.heap.size w4 W5 := by rw [← hW5]; exact ((Below.refl _ w4).alloc (Nat.le_refl _) _).alloc (by simp) _
      have hz5 := q16 HZ4.out hb5; have ht5 := q16 HT4.out hb5; have hB5 : Below B w W5 := HB4.out.trans (hb5.mono (by omega)); have hK5 : q27 w W5 g none := HK4.out.trans (q27.of_below hb5 g none) (.inl rfl); have hR5 := HR4.out.below hb5; rw [hW5]; clear hW5 hrg4 z0 z1 z2 f0 f1 f2 t0 t1 t2 tf0 tf1 tf2 hb5
      go_wp2
      go_loopw [] (fun W => ∃ seen : Array Nat, W.heap[w4.heap.size]? = some (.map letEntries 3) ∧ W.heap[w4.heap.size + 1]? = some (.mapIter (some w4.heap.size) 3 seen 3) ∧ W.heap[w.heap.size]? = some (.cells #[.int .i64 0, .string ⟨#[]⟩, .slice none 0 0] 44 (0, 0)) ∧ W.heap[w2.heap.size]? = some (.cells #[.int .i64 x.f0, .string x.f1, .slice A2 x.f2.length c2] 44 (0, 0)) ∧ Below B w W ∧ q27 w W g none ∧ IsRd W g (fun k => ok k ∧ k < B) l ∧ ∀ e ∈ letEntries.toList, seen.contains e.born = true → ∀ k, e.key = .int .i64 k → isCharB x (meta_letter k).toList = false) (fun W => (leftOf letEntries (W.iterSeen (w4.heap.size + 1))).size)
      case atStart => exact ⟨#[], hm5, hi5, hz5, ht5, hB5, hK5, hR5, fun e _ h => by simp at h⟩
      case round =>
        obtain ⟨seen, hm, hi, hz, ht, hB6, hK6, hR6, hno⟩ := hrel; clear hm5 hi5 hz5 ht5 hB5 hK5 hR5
        rcases run_next_at (P := Try.prog) wr 0 (w4.heap.size + 1) w4.heap.size 3 3 seen letEntries 3 hi hm ent_old (Nat.le_refl _) with ⟨h0, hrun⟩ | ⟨e, he, w6, hw6, hrun⟩
        · have hnx : ∀ ty, (Instr.next (.pointer (some ⟨w4.heap.size + 1, 0, none⟩)) false ty).run Try.prog wr = _ := fun _ => hrun
          obtain ⟨z0, z1, z2, f0, f1, f2⟩ := blk3 hz
          obtain rfl := hv0 cv c4 (fun k hk => by
            obtain ⟨e, he, hek⟩ := ent_has hk
            exact hno e he (all_seen letEntries seen h0 e he) k hek)
          have HZ6 := Aside0.mk hz; have HI6 := Aside0.mk hi; have HM6 := Aside0.mk hm; clear hz ht hi hm
          go_wp2
          refine bodyPost_ret (results_ct rfl _ _ w.heap.size 44 #[.int .i64 0, .string ⟨#[]⟩, .slice none 0 0] (0, 0) _ rfl (q17 (q17 (q17 HZ6.out 0 _ rfl) 1 _ rfl) 2 _ rfl) Try.underlying44 rfl (by kernel_rfl)) rfl ?_; exact star_end (r := (z44, l, false)) hB6 hK6 (by omega) hlt hR6 (by simp [z44]) (Kd.F_nil k44 wr _)
        · obtain ⟨k, hk, hek, hev⟩ := ent_of (mem_left he).1; rw [hek, hev] at hrun
          have hnx : ∀ ty, (Instr.next (.pointer (some ⟨w4.heap.size + 1, 0, none⟩)) false ty).run Try.prog wr = _ := fun _ => hrun
          obtain ⟨hi7, hkeep, hbel⟩ := iter_step hi hw6 (.mapIter (some w4.heap.size) 3 (seen.push e.born) 3); obtain ⟨W7, hW7⟩ : ∃ W7, Go.ChangeMaps.setBlock w6 (w4.heap.size + 1) (.mapIter (some w4.heap.size) 3 (seen.push e.born) 3) = W7 := ⟨_, rfl⟩; rw [hW7] at hrun hnx hi7 hkeep hbel; have hm7 := (hkeep w4.heap.size (by omega)).trans hm; have hen := run_entry_at (P := Try.prog) W7 (w4.heap.size + 1) w4.heap.size 3 seen letEntries 3 e hi7 hm7 (mem_left he).1 ent_nodup; rw [hek, hev] at hen; have hz7 := (hkeep w.heap.size (by omega)).trans hz; have ht7 := (hkeep w2.heap.size (by omega)).trans ht; have hB7 : Below B w W7 := hB6.trans (hbel B (by omega)); have hb67 := hbel w4.heap.size (by omega); have hsz67 := hb67.size
          have hseen : wr.iterSeen (w4.heap.size + 1) = seen := by unfold Go.World.iterSeen; rw [hi]
          have hzw : w.heap.size < wr.heap.size := blk_lt hz
          have hgw : g < wr.heap.size := by obtain ⟨_, _, h1, _⟩ := hR6; exact blk_lt h1
          have hK7 : q27 w W7 g none := ⟨hB7.size, fun i hi' hg hn => (hkeep i (by omega)).trans (hK6.2 i hi' hg hn)⟩
          have hR7 : IsRd W7 g (fun k => ok k ∧ k < B) l := by
            obtain ⟨A, c, h1, h2, h3⟩ := hR6; exact ⟨A, c, (hkeep g (by omega)).trans h1, h2, Kd.F_step h3 fun k hk' _ => hkeep k (by have := hk'.2; omega)⟩
          have hF7 : Kd.F k44 W7 (fun k => ok k ∧ k < B) A2 x.f2.length x.f2 := Kd.F_step HF4.out fun k hk _ => (hB7.block k hk.2).trans (HB4.out.block k hk.2).symm
          clear hkeep hbel hrun hm hi hz ht hB6 hK6 hR6; obtain ⟨t0, t1, t2, tf0, tf1, tf2⟩ := blk3 ht7; have HI7 := Aside0.mk hi7; have HM7 := Aside0.mk hm7; have HZ7 := Aside0.mk hz7; have HT7 := Aside0.mk ht7; have HB7 := Aside0.mk hB7; have HK7 := Aside0.mk hK7; have HR7 := Aside0.mk hR7; have HF7 := Aside0.mk hF7; clear hi7 hm7 hz7 ht7 hB7 hK7 hR7 hF7
          by_cases cm : isCharB x (meta_letter k).toList = true
          · go_upto_region 15 with (go_at_call 61; refine (meta_isChar.calls x.f0 x.f1 A2 c2 x.f2 (meta_letter k) true W7 (Kd.F_now HF7.out) hl2 ((isChar_eq x (meta_letter k)).trans (congrArg some cm))).mono ?_; rintro e8 w8 ⟨rfl, hb8⟩)
            have hz8 := q16 HZ7.out hb8; have hB8 : Below B w w8 := HB7.out.trans (hb8.mono (by omega)); have hK8 : q27 w w8 g none := HK7.out.trans (q27.of_below hb8 g none) (.inl rfl); have hR8 := HR7.out.below hb8; have hs8 := hb8.size; obtain rfl := hv1 cv c4 k hk cm; clear t0 t1 t2 tf0 tf1 tf2 hb8 hnx hen
            rcases l with _ | ⟨n, l2⟩
            · have HZ8 := Aside0.mk hz8; have HB8 := Aside0.mk hB8; have HK8 := Aside0.mk hK8; have HR8 := Aside0.mk hR8; clear hz8 hB8 hK8 hR8
              go_upto_region 16 with (go_at_call 60; refine (meta_next.nil g _ w8 HR8.out).mono ?_; rintro e9 w9 ⟨rfl, hb9⟩)
              obtain ⟨W10, hW10⟩ : ∃ W10, w9.alloc (.cells #[.int .i64 0, .string ⟨#[]⟩, .slice none 0 0] 44) = W10 := ⟨_, rfl⟩
              have hn10 : W10.heap[w9.heap.size]? = some (.cells #[.int .i64 0, .string ⟨#[]⟩, .slice none 0 0] 44 (0, 0)) := by rw [← hW10]; exact blk_new _ _
              have hz10 : W10.heap[w.heap.size]? = some (.cells #[.int .i64 0, .string ⟨#[]⟩, .slice none 0 0] 44 (0, 0)) := by rw [← hW10]; exact blk_alloc (q16 HZ8.out hb9) _
              have hs9 := hb9.size
              have hb10 : Below w8.heap.size w8 W10 := by rw [← hW10]; exact hb9.alloc hs9 _
              rw [hW10]; clear hW10 hb9; have HN := Aside0.mk hn10; have HZN := Aside0.mk hz10
              have hNZ : ∀ j, w9.heap.size ≠ (⟨w.heap.size, j, none⟩ : Addr).block := fun j => by simp; omega
              have HB10 := Aside0.mk hb10; obtain ⟨z0, z1, z2, f0, f1, f2⟩ := blk3 hz10; clear hn10 hz10 hb10; refine start_ (n := 12) (S := fun w' => w'.cell? ⟨w9.heap.size, 0, none⟩ = some (.int .i64 0) ∧ w'.cell? ⟨w9.heap.size, 1, none⟩ = some (.string ⟨#[]⟩)) (ds := []) #[false, false, false, false, false, false, false, false, false, false, false, false] (by kernel_rfl) rfl rfl ⟨(blk3 (blk_drew HN.out)).1, (blk3 (blk_drew HN.out)).2.1⟩ (fun hHeld => ?_); refine pure_ (i := 0) (N := some 72) (v := ?_) (a' := ?_) #[true, false, false, false, false, false, false, false, false, false, false, false] rfl rfl (by kernel_rfl) (fun _ _ _ h => h) (Or.inl ⟨by rfl, ?_⟩) ?_ ?_; rotate_left
              · intro w'; go_simp; with_reducible rfl
              rotate_left
              · simp only [Act.put, List.setIfInBounds_toArray, List.set_cons_zero, List.set_cons_succ, i64_w, i32_w]; rfl
              refine pure_ (i := 1) (N := some 73) (v := ?_) (a' := ?_) #[true, true, false, false, false, false, false, false, false, false, false, false] rfl rfl (by kernel_rfl) (fun _ _ _ h => h) (Or.inl ⟨by rfl, ?_⟩) ?_ ?_; rotate_left
              · intro w'; go_simp; with_reducible rfl
              rotate_left
              · simp only [Act.put, List.setIfInBounds_toArray, List.set_cons_zero, List.set_cons_succ, i64_w, i32_w]; rfl
              refine pure_ (i := 4) (N := some 76) (v := ?_) (a' := ?_) #[true, true, false, false, true, false, false, false, false, false, false, false] rfl rfl (by kernel_rfl) (fun _ _ _ h => h) (Or.inl ⟨by rfl, ?_⟩) ?_ ?_; rotate_left
              · intro w'; go_simp; with_reducible rfl
              rotate_left
              · simp only [Act.put, List.setIfInBounds_toArray, List.set_cons_zero, List.set_cons_succ, i64_w, i32_w]; rfl
              refine pure_ (i := 5) (N := some 77) (v := ?_) (a' := ?_) #[true, true, false, false, true, true, false, false, false, false, false, false] rfl rfl (by kernel_rfl) (fun _ _ _ h => h) (Or.inl ⟨by rfl, ?_⟩) ?_ ?_; rotate_left
              · intro w'; go_simp; with_reducible rfl
              rotate_left
              · simp only [Act.put, List.setIfInBounds_toArray, List.set_cons_zero, List.set_cons_succ, i64_w, i32_w]; rfl
              refine pure_ (i := 6) (N := some 78) (v := undef) (a' := ?_) #[true, true, false, false, true, true, true, false, false, false, false, false] rfl rfl (by kernel_rfl) (fun _ _ _ h => h) (Or.inr ⟨by rfl, rfl⟩) ?_ ?_; rotate_left
              · simp only [Act.put, List.setIfInBounds_toArray, List.set_cons_zero, List.set_cons_succ, i64_w, i32_w]; rfl
              refine pure_ (i := 7) (N := some 79) (v := undef) (a' := ?_) #[true, true, false, false, true, true, true, true, false, false, false, false] rfl rfl (by kernel_rfl) (fun _ _ _ h => h) (Or.inr ⟨by rfl, rfl⟩) ?_ ?_; rotate_left
              · simp only [Act.put, List.setIfInBounds_toArray, List.set_cons_zero, List.set_cons_succ, i64_w, i32_w]; rfl
              refine pure_ (i := 8) (N := some 80) (v := undef) (a' := ?_) #[true, true, false, false, true, true, true, true, true, false, false, false] rfl rfl (by kernel_rfl) (fun _ _ _ h => h) (Or.inr ⟨by rfl, rfl⟩) ?_ ?_; rotate_left
              · simp only [Act.put, List.setIfInBounds_toArray, List.set_cons_zero, List.set_cons_succ, i64_w, i32_w]; rfl
              refine pure_ (i := 9) (N := some 81) (v := ?_) (a' := ?_) #[true, true, false, false, true, true, true, true, true, true, false, false] rfl rfl (by kernel_rfl) (fun _ _ _ h => h) (Or.inl ⟨by rfl, ?_⟩) ?_ ?_; rotate_left
              · intro w'; go_simp; with_reducible rfl
              rotate_left
              · simp only [Act.put, List.setIfInBounds_toArray, List.set_cons_zero, List.set_cons_succ, i64_w, i32_w]; rfl
              refine take_ (i := 2) (N := some 74) (v := ?_) (a' := ?_) #[true, true, true, false, true, true, true, true, true, true, false, false] rfl rfl (by kernel_rfl) (fun _ _ _ h => h) (Or.inl ⟨by rfl, ?_⟩) hHeld ?_ ?_; rotate_left
              · rintro w' ⟨s0, s1⟩; go_simp; with_reducible rfl
              rotate_left
              · simp only [Act.put, List.setIfInBounds_toArray, List.set_cons_zero, List.set_cons_succ, i64_w, i32_w]; rfl
              refine pure_ (i := 3) (N := some 75) (v := ?_) (a' := ?_) #[true, true, true, true, true, true, true, true, true, true, false, false] rfl rfl (by kernel_rfl) (fun _ _ _ h => h) (Or.inl ⟨by rfl, ?_⟩) ?_ ?_; rotate_left
              · intro w'; go_simp; with_reducible rfl
              rotate_left
              · simp only [Act.put, List.setIfInBounds_toArray, List.set_cons_zero, List.set_cons_succ, i64_w, i32_w]; rfl
              refine one_ (i := 10) (N := none) #[true, true, true, true, true, true, true, true, true, true, true, false] rfl rfl (by kernel_rfl) (by decide) (fun K hK => ?_); refine skip_ (w1 := ?_) (by rfl) rfl ?_ ?_; rotate_left
              · go_simp; rfl
              refine hK.out _ _ ⟨(blk3 (blk_far (blk_far (blk_far (blk_drew HN.out) (hNZ _) _) (hNZ _) _) (hNZ _) _)).1, (blk3 (blk_far (blk_far (blk_far (blk_drew HN.out) (hNZ _) _) (hNZ _) _) (hNZ _) _)).2.1⟩ (fun hHeld => ?_); clear hK K; refine pure_ (i := 11) (N := some 3) (v := ?_) (a' := ?_) #[true, true, true, true, true, true, true, true, true, true, true, true] rfl rfl (by kernel_rfl) (fun _ _ _ h => h) (Or.inl ⟨by rfl, ?_⟩) ?_ ?_; rotate_left
              · intro w'; go_simp; with_reducible rfl
              rotate_left
              · simp only [Act.put, List.setIfInBounds_toArray, List.set_cons_zero, List.set_cons_succ, i64_w, i32_w]; rfl
              refine done_ (by kernel_rfl) ?_
              go_wp2
              refine bodyPost_ret (results_ct rfl _ _ w.heap.size 44 #[.int .i64 k, .string ⟨#[]⟩, .slice none 0 0] (0, 0) _ rfl (blk_drew (q17 (q17 (q17 HZN.out 0 _ rfl) 1 _ rfl) 2 _ rfl)) Try.underlying44 rfl (by kernel_rfl)) rfl ?_; exact star_drew (star_end (r := (⟨k, ⟨#[]⟩, []⟩, [], false)) (HB8.out.trans (HB10.out.mono (by omega))) (HK8.out.trans (q27.of_below HB10.out g none) (.inl rfl)) (by omega) hlt (HR8.out.below HB10.out) (by simp) (Kd.F_nil k44 W10 _))
            · have HZ8 := Aside0.mk hz8; have HB8 := Aside0.mk hB8; have HK8 := Aside0.mk hK8; have HR8 := Aside0.mk hR8
              have hgw8 : g < w8.heap.size := by obtain ⟨_, _, h1, _⟩ := hR8; exact blk_lt h1
              clear hz8 hB8 hK8 hR8
              go_upto_region 16 with (go_at_call 60; refine (meta_next.cons g B ok n l2 w8 hB HR8.out).mono ?_; rintro e9 w9 ⟨⟨A9, c9, rfl, hl9, hF9⟩, hR9, hb9, hk9⟩)
              obtain ⟨W10, hW10⟩ : ∃ W10, w9.alloc (.cells #[.int .i64 n.f0, .string n.f1, .slice A9 n.f2.length c9] 44) = W10 := ⟨_, rfl⟩
              have hn10 : W10.heap[w9.heap.size]? = some (.cells #[.int .i64 n.f0, .string n.f1, .slice A9 n.f2.length c9] 44 (0, 0)) := by rw [← hW10]; exact blk_new _ _
              have hs9 := hk9.1; have hz9 := (hk9.2 w.heap.size (by omega) (by omega) (by simp)).trans HZ8.out
              have hz10 : W10.heap[w.heap.size]? = some (.cells #[.int .i64 0, .string ⟨#[]⟩, .slice none 0 0] 44 (0, 0)) := by rw [← hW10]; exact blk_alloc hz9 _
              have hb910 : Below w9.heap.size w9 W10 := by rw [← hW10]; exact (Below.refl _ w9).alloc (Nat.le_refl _) _
              have hs10 := hb910.size; rw [hW10]; clear hW10 hz9; have HN := Aside0.mk hn10; have HZN := Aside0.mk hz10
              have hNZ : ∀ j, w9.heap.size ≠ (⟨w.heap.size, j, none⟩ : Addr).block := fun j => by simp; omega
              have HB10 : Aside0 (Below B w W10) := ⟨(HB8.out.trans hb9).trans (hb910.mono (by omega))⟩; have HK10 : Aside0 (q27 w W10 g none) := ⟨(HK8.out.trans hk9 (.inl rfl)).trans (q27.of_below hb910 g none) (.inl rfl)⟩; have HR10 := Aside0.mk (hR9.below hb910); obtain ⟨z0, z1, z2, f0, f1, f2⟩ := blk3 hz10
              have hq2 : (n.f0 == 2) = decide (n.f0 = 2) := by by_cases c : n.f0 = 2 <;> simp [c]
              clear hn10 hz10 hb910 hb9 hk9 hR9 hF9; refine start_ (n := 12) (S := fun w' => w'.cell? ⟨w9.heap.size, 0, none⟩ = some (.int .i64 n.f0) ∧ w'.cell? ⟨w9.heap.size, 1, none⟩ = some (.string n.f1)) (ds := []) #[false, false, false, false, false, false, false, false, false, false, false, false] (by kernel_rfl) rfl rfl ⟨(blk3 (blk_drew HN.out)).1, (blk3 (blk_drew HN.out)).2.1⟩ (fun hHeld => ?_); refine pure_ (i := 0) (N := some 72) (v := ?_) (a' := ?_) #[true, false, false, false, false, false, false, false, false, false, false, false] rfl rfl (by kernel_rfl) (fun _ _ _ h => h) (Or.inl ⟨by rfl, ?_⟩) ?_ ?_; rotate_left
              · intro w'; go_simp; with_reducible rfl
              rotate_left
              · simp only [Act.put, List.setIfInBounds_toArray, List.set_cons_zero, List.set_cons_succ, i64_w, i32_w]; rfl
              refine pure_ (i := 1) (N := some 73) (v := ?_) (a' := ?_) #[true, true, false, false, false, false, false, false, false, false, false, false] rfl rfl (by kernel_rfl) (fun _ _ _ h => h) (Or.inl ⟨by rfl, ?_⟩) ?_ ?_; rotate_left
              · intro w'; go_simp; with_reducible rfl
              rotate_left
              · simp only [Act.put, List.setIfInBounds_toArray, List.set_cons_zero, List.set_cons_succ, i64_w, i32_w]; rfl
              refine pure_ (i := 4) (N := some 76) (v := ?_) (a' := ?_) #[true, true, false, false, true, false, false, false, false, false, false, false] rfl rfl (by kernel_rfl) (fun _ _ _ h => h) (Or.inl ⟨by rfl, ?_⟩) ?_ ?_; rotate_left
              · intro w'; go_simp; with_reducible rfl
              rotate_left
              · simp only [Act.put, List.setIfInBounds_toArray, List.set_cons_zero, List.set_cons_succ, i64_w, i32_w]; rfl
              refine pure_ (i := 5) (N := some 77) (v := ?_) (a' := ?_) #[true, true, false, false, true, true, false, false, false, false, false, false] rfl rfl (by kernel_rfl) (fun _ _ _ h => h) (Or.inl ⟨by rfl, ?_⟩) ?_ ?_; rotate_left
              · intro w'; go_simp; with_reducible rfl
              rotate_left
              · simp only [Act.put, List.setIfInBounds_toArray, List.set_cons_zero, List.set_cons_succ, i64_w, i32_w]; rfl
              refine pure_ (i := 6) (N := some 78) (v := ?_) (a' := ?_) #[true, true, false, false, true, true, true, false, false, false, false, false] rfl rfl (by kernel_rfl) (fun _ _ _ h => h) (Or.inl ⟨by rfl, ?_⟩) ?_ ?_; rotate_left
              · intro w'; go_simp; with_reducible rfl
              rotate_left
              · simp only [Act.put, List.setIfInBounds_toArray, List.set_cons_zero, List.set_cons_succ, i64_w, i32_w]; rfl
              refine take_ (i := 2) (N := some 74) (v := ?_) (a' := ?_) #[true, true, true, false, true, true, true, false, false, false, false, false] rfl rfl (by kernel_rfl) (fun _ _ _ h => h) (Or.inl ⟨by rfl, ?_⟩) hHeld ?_ ?_; rotate_left
              · rintro w' ⟨s0, s1⟩; go_simp; with_reducible rfl
              rotate_left
              · simp only [Act.put, List.setIfInBounds_toArray, List.set_cons_zero, List.set_cons_succ, i64_w, i32_w]; rfl
              refine pure_ (i := 3) (N := some 75) (v := ?_) (a' := ?_) #[true, true, true, true, true, true, true, false, false, false, false, false] rfl rfl (by kernel_rfl) (fun _ _ _ h => h) (Or.inl ⟨by rfl, ?_⟩) ?_ ?_; rotate_left
              · intro w'; go_simp; with_reducible rfl
              rotate_left
              · simp only [Act.put, List.setIfInBounds_toArray, List.set_cons_zero, List.set_cons_succ, i64_w, i32_w]; rfl
              refine take_ (i := 7) (N := some 79) (v := ?_) (a' := ?_) #[true, true, true, true, true, true, true, true, false, false, false, false] rfl rfl (by kernel_rfl) (fun _ _ _ h => h) (Or.inl ⟨by rfl, ?_⟩) hHeld ?_ ?_; rotate_left
              · rintro w' ⟨s0, s1⟩; go_simp; with_reducible rfl
              rotate_left
              · simp only [Act.put, List.setIfInBounds_toArray, List.set_cons_zero, List.set_cons_succ, i64_w, i32_w]; rfl
              refine pure_ (i := 8) (N := some 80) (v := ?_) (a' := ?_) #[true, true, true, true, true, true, true, true, true, false, false, false] rfl rfl (by kernel_rfl) (fun _ _ _ h => h) (Or.inl ⟨by rfl, ?_⟩) ?_ ?_; rotate_left
              · intro w'; go_simp; with_reducible rfl
              rotate_left
              · simp only [Act.put, List.setIfInBounds_toArray, List.set_cons_zero, List.set_cons_succ, i64_w, i32_w]; rfl
              refine pure_ (i := 9) (N := some 81) (v := ?_) (a' := ?_) #[true, true, true, true, true, true, true, true, true, true, false, false] rfl rfl (by kernel_rfl) (fun _ _ _ h => h) (Or.inl ⟨by rfl, ?_⟩) ?_ ?_; rotate_left
              · intro w'; go_simp; with_reducible rfl
              rotate_left
              · simp only [Act.put, List.setIfInBounds_toArray, List.set_cons_zero, List.set_cons_succ, i64_w, i32_w]; rfl
              refine one_ (i := 10) (N := none) #[true, true, true, true, true, true, true, true, true, true, true, false] rfl rfl (by kernel_rfl) (by decide) (fun K hK => ?_); refine skip_ (w1 := ?_) (by rfl) rfl ?_ ?_; rotate_left
              · go_simp; rfl
              refine hK.out _ _ ⟨(blk3 (blk_far (blk_far (blk_far (blk_drew HN.out) (hNZ _) _) (hNZ _) _) (hNZ _) _)).1, (blk3 (blk_far (blk_far (blk_far (blk_drew HN.out) (hNZ _) _) (hNZ _) _) (hNZ _) _)).2.1⟩ (fun hHeld => ?_); clear hK K; refine pure_ (i := 11) (N := some 3) (v := ?_) (a' := ?_) #[true, true, true, true, true, true, true, true, true, true, true, true] rfl rfl (by kernel_rfl) (fun _ _ _ h => h) (Or.inl ⟨by rfl, ?_⟩) ?_ ?_; rotate_left
              · intro w'; go_simp; with_reducible rfl
              rotate_left
              · simp only [Act.put, List.setIfInBounds_toArray, List.set_cons_zero, List.set_cons_succ, i64_w, i32_w]; rfl
              refine done_ (by kernel_rfl) ?_
              go_wp2
              refine bodyPost_ret (results_ct rfl _ _ w.heap.size 44 #[.int .i64 k, .string n.f1, .slice none 0 0] (0, 0) _ rfl (blk_drew (q17 (q17 (q17 HZN.out 0 _ rfl) 1 _ rfl) 2 _ rfl)) Try.underlying44 rfl (by kernel_rfl)) rfl ?_; exact star_drew (star_end (r := (⟨k, n.f1, []⟩, l2, decide (n.f0 = 2))) HB10.out HK10.out (by omega) hlt HR10.out (by simp) (Kd.F_nil k44 W10 _))
          · go_wp2_with (go_at_call 61; refine (meta_isChar.calls x.f0 x.f1 A2 c2 x.f2 (meta_letter k) false W7 (Kd.F_now HF7.out) hl2 ((isChar_eq x (meta_letter k)).trans (congrArg some (Bool.eq_false_iff.2 cm)))).mono ?_; rintro e8 w8 ⟨rfl, hb8⟩)
            have hs8 := hb8.size; have hi8 := q16 HI7.out hb8
            go_roundw
            case rel =>
              refine ⟨seen.push e.born, q16 HM7.out hb8, hi8, q16 HZ7.out hb8, q16 HT7.out hb8, HB7.out.trans (hb8.mono (by omega)), HK7.out.trans (q27.of_below hb8 g none) (.inl rfl), HR7.out.below hb8, fun e1 h1 hc k1 hk1 => ?_⟩; rw [contains_push] at hc
              rcases Bool.or_eq_true _ _ ▸ hc with hc | hc
              · exact hno e1 h1 hc k1 hk1
              · have hee : e1 = e := born_inj ent_nodup h1 (mem_left he).1 (beq_iff_eq.1 hc); subst hee; rw [hek] at hk1
                injection hk1 with _ hk1
                subst hk1; exact Bool.eq_false_iff.2 cm
            case measure =>
              rw [show w8.iterSeen (w4.heap.size + 1) = seen.push e.born from by unfold Go.World.iterSeen; rw [hi8], hseen]; exact left_shrinks letEntries seen e he
theorem IsRd.grown {W W' : World} {g : Nat} {ok : Nat → Prop} {l : List S44} {row : Option Nat} (h : IsRd W g ok l) (hg : W.grownBy W' row) (hne : some g ≠ row) (hok : ∀ k, ok k → some k ≠ row) : IsRd W' g ok l := by
  obtain ⟨A, c, h1, h2, h3⟩ := h; exact ⟨A, c, blk_grown h1 hg hne, h2, Kd.F_grown h3 hg hok⟩
def DnHolds (D : List S44 → Option (List S44 × Bool)) : Prop :=
  ∀ (P : Nat → Prop) (A : Option Addr) (c : Nat) (m : List S44) (q1 : List S44) (q2 : Bool) (W : World), Kd.V k44 44 W W.heap.size P (.slice A m.length c) m → D m = some (q1, q2) →
      Calls Try.prog 36 #[.slice A m.length c] W fun e w' => ∃ v0_ : Value, e = .returned (.tuple #[v0_, .bool q2]) ∧ Kd.N k44 44 w' W.heap.size (fun k_ => P k_ ∨ W.heap.size ≤ k_) v0_ q1 ∧ Below W.heap.size W w'
def letKind (x : S44) : Int := if isCharB x [83] = true then 5 else if isCharB x [84] = true then 6 else if isCharB x [69] = true then 7 else 0
def starC (D : List S44 → Option (List S44 × Bool)) (x : S44) (l : List S44) : Option (S44 × List S44 × Bool) :=
  if isCharB x [86] = true then some ((⟨1, ⟨#[42]⟩, []⟩ : S44), l, true)
    else if x.f0 = 4 then (match x.f2 with
      | [] => some (z44, l, false)
      | wd :: ks => if wd.f0 = 2 then (D ks).bind fun q => some ((⟨8, wd.f1, q.1⟩ : S44), l, q.2) else some (z44, l, false))
    else if letKind x = 0 then some (z44, l, false) else (match l with
      | [] => some ((⟨letKind x, ⟨#[]⟩, []⟩ : S44), [], false)
      | n :: l2 => some ((⟨letKind x, n.f1, []⟩ : S44), l2, decide (n.f0 = 2)))
def starS (D : List S44 → Option (List S44 × Bool)) : List S44 → Option (S44 × List S44 × Bool)
  | [] => some (z44, [], false)
  | x :: l => starC D x l
mutual
def meta_dn.l0 : Nat → List S44 → List S44 → Option (List S44 × Bool)
  | 0, _, _ => none
  | _ + 1, out, [] => some (out, true)
  | k + 1, out, t :: rest => if t.f0 = 4 then (meta_dn.f k t.f2).bind fun q => if q.2 = true then (if out.length < 2932031007402 then meta_dn.l0 k (out ++ [(⟨t.f0, t.f1, q.1⟩ : S44)]) rest else none) else some ([], false)
    else if isCharB t [42] = true then (starS (fun l => meta_dn.f k l) rest).bind fun r => if r.2.2 = true then (if out.length < 2932031007402 then meta_dn.l0 k (out ++ [r.1]) r.2.1 else none) else some ([], false)
    else if out.length < 2932031007402 then meta_dn.l0 k (out ++ [t]) rest else none
def meta_dn.f : Nat → List S44 → Option (List S44 × Bool)
  | 0, _ => none
  | k + 1, l => meta_dn.l0 k [] l
end
theorem letKind_of {x : S44} {k : Int} (hk : 5 ≤ k ∧ k ≤ 7) (h : isCharB x (meta_letter k).toList = true) : letKind x = k := by
  have e5 : (meta_letter 5).toList = [83] := by rw [Go.ByteArray.toList_eq]; rfl
  have e6 : (meta_letter 6).toList = [84] := by rw [Go.ByteArray.toList_eq]; rfl
  have e7 : (meta_letter 7).toList = [69] := by rw [Go.ByteArray.toList_eq]; rfl
  have hc : k = 5 ∨ k = 6 ∨ k = 7 := by omega
  unfold letKind
  rcases hc with rfl | rfl | rfl
  · rw [e5] at h; rw [if_pos h]
  · rw [e6] at h
    have h5 : isCharB x [83] = false := by
      simp only [isCharB, Bool.and_eq_true, beq_iff_eq] at h; simp [isCharB, h.2]
    simp [h5, h]
  · rw [e7] at h
    have h5 : isCharB x [83] = false := by
      simp only [isCharB, Bool.and_eq_true, beq_iff_eq] at h; simp [isCharB, h.2]
    have h6 : isCharB x [84] = false := by
      simp only [isCharB, Bool.and_eq_true, beq_iff_eq] at h; simp [isCharB, h.2]
    simp [h5, h6, h]
theorem letKind_none {x : S44} (h : ∀ k, (5 ≤ k ∧ k ≤ 7) → isCharB x (meta_letter k).toList = false) : letKind x = 0 := by
  have e5 : (meta_letter 5).toList = [83] := by rw [Go.ByteArray.toList_eq]; rfl
  have e6 : (meta_letter 6).toList = [84] := by rw [Go.ByteArray.toList_eq]; rfl
  have e7 : (meta_letter 7).toList = [69] := by rw [Go.ByteArray.toList_eq]; rfl
  have h5 := h 5 (by decide); have h6 := h 6 (by decide); have h7 := h 7 (by decide); rw [e5] at h5; rw [e6] at h6; rw [e7] at h7; simp [letKind, h5, h6, h7]
theorem meta_starred.calls (D : List S44 → Option (List S44 × Bool)) (ih : DnHolds D) (g B : Nat) (ok : Nat → Prop) (l : List S44) (w : World) (hB : B ≤ g) (h : IsRd w g (fun k => ok k ∧ k < B) l) (r : S44 × List S44 × Bool) (hr : starS D l = some r) :
    Calls Try.prog 62 #[.pointer (some ⟨g, 0, none⟩)] w fun e w' => StarPost g B ok r w e w' := by
  cases l with
  | nil =>
    simp only [starS, Option.some.injEq] at hr; subst hr
    have hlt : g < w.heap.size := by obtain ⟨_, _, h1, _⟩ := h; exact blk_lt h1
    refine (meta_starred.nil g _ w h).mono ?_; rintro e w' ⟨rfl, hb⟩; exact ⟨⟨none, 0, rfl, by simp [z44], Kd.F_nil k44 w' _⟩, h.below hb, hb.mono (by omega), q27.of_below hb g none⟩
  | cons x l =>
    replace hr : starC D x l = some r := hr; unfold starC at hr; refine meta_starred.cons g B ok x l w hB h D ih r ?_ ?_ ?_ ?_ ?_ ?_
    · intro hv; rw [if_pos hv] at hr; exact (Option.some.inj hr).symm
    · intro hv h4 hk; rw [if_neg hv, if_pos h4, hk] at hr; exact (Option.some.inj hr).symm
    · intro hv h4 wd ks hk hw; rw [if_neg hv, if_pos h4, hk] at hr; simp only [if_neg hw] at hr; exact (Option.some.inj hr).symm
    · intro hv h4 wd ks hk hw; rw [if_neg hv, if_pos h4, hk] at hr; simp only [if_pos hw] at hr; obtain ⟨⟨q1, q2⟩, hq, he⟩ := Option.bind_eq_some_iff.1 hr; exact ⟨q1, q2, hq, (Option.some.inj he).symm⟩
    · intro hv h4 hn; rw [if_neg hv, if_neg h4, if_pos (letKind_none hn)] at hr; exact (Option.some.inj hr).symm
    · intro hv h4 k hk hc; have e := letKind_of hk hc; rw [if_neg hv, if_neg h4, e, if_neg (show ¬ k = 0 by omega)] at hr
      cases l with
      | nil => exact (Option.some.inj hr).symm
      | cons n l2 => exact (Option.some.inj hr).symm
set_option maxHeartbeats 8000000 in
set_option maxRecDepth 100000 in
theorem meta_dn.holds (k : Nat) : DnHolds (meta_dn.f k) := by
  induction k using Nat.strongRecOn with
  | _ k ih =>
  intro P A0 c0 l0 r1 r2 w hs0 h
  cases k with
  | zero => exact absurd h (by simp [meta_dn.f])
  | succ k =>
  simp only [meta_dn.f] at h; obtain ⟨_, hc0, hF0⟩ := Kd.V_at hs0; have hF0 := Kd.F_bound hF0; have hu44 := Try.underlying44; have info44' := info44
  go_enter Try.func36, Try.ntmps36
  go_upto_block 0 with (fail)
  obtain ⟨W0, hW0⟩ : ∃ W0, w.alloc (.cells #[.slice A0 l0.length c0] 80) = W0 := ⟨_, rfl⟩
  have hR0 : IsRd W0 w.heap.size (fun k => P k ∧ k < w.heap.size) l0 := by
    rw [← hW0]; exact ⟨A0, c0, blk_new _ _, hc0, F_old hF0 ((Below.refl _ w).alloc (Nat.le_refl _) _)⟩
  have hB0 : Below w.heap.size w W0 := by rw [← hW0]; exact (Below.refl _ w).alloc (Nat.le_refl _) _
  have hs00 : w.heap.size < W0.heap.size := by rw [← hW0]; simp
  rw [hW0]; clear hW0 hs0 hF0
  go_wp2
  have HCK := Aside0.mk h; clear h
  go_loopg [4] k (fun kq v4 W => ∃ ys rest, Aside0 (meta_dn.l0 kq ys rest = some (r1, r2)) ∧ Aside0 (kq ≤ k) ∧ Aside0 (Kd.N k44 44 W w.heap.size (fun j => (P j ∧ j < w.heap.size) ∨ w.heap.size < j) v4 ys) ∧ Aside0 (IsRd W w.heap.size (fun j => P j ∧ j < w.heap.size) rest) ∧ Aside0 (Below w.heap.size w W))
  case atStart => exact ⟨[], l0, HCK, ⟨Nat.le_refl _⟩, ⟨Kd.N_nil _ _ _ _ _⟩, ⟨hR0⟩, ⟨hB0⟩⟩
  case round =>
    obtain ⟨ys, rest, HA, HK1, HN, HR, HB⟩ := hrel; clear hR0 hB0
    have hsw : w.heap.size < wr.heap.size := by obtain ⟨_, _, h1, _⟩ := HR.out; exact blk_lt h1
    cases gk with
    | zero => exact absurd HA.out (by simp [meta_dn.l0])
    | succ k1 =>
    cases rest with
    | nil =>
      have H := HA.out; simp only [meta_dn.l0, Option.some.injEq, Prod.mk.injEq] at H; obtain ⟨rfl, rfl⟩ := H
      go_wp2_with (go_at_call 60; refine (meta_next.nil w.heap.size _ wr HR.out).mono ?_; rintro e w2 ⟨rfl, hb2⟩)
      go_ret2
      exact ⟨u4, rfl, Kd.N_mono (Kd.N_below HN.out (hb2.alloc (Nat.le_trans (Nat.le_refl _) hb2.size) _)) (fun j hj => hj.elim (fun h => .inl h.1) (fun h => .inr (Nat.le_of_lt h))), (HB.out.trans (hb2.mono (by omega))).alloc (by have := hb2.size; omega) _⟩
    | cons t rest =>
      have H := HA.out; rw [meta_dn.l0] at H
      go_upto_region 4 with (go_at_call 60; refine (meta_next.cons w.heap.size w.heap.size P t rest wr (Nat.le_refl _) HR.out).mono ?_; rintro e w2 ⟨⟨A2, c2, rfl, hl2, hF2⟩, hR2, hb2, hk2⟩)
      obtain ⟨W3, hW3⟩ : ∃ W3, w2.alloc (.cells #[.int .i64 t.f0, .string t.f1, .slice A2 t.f2.length c2] 44) = W3 := ⟨_, rfl⟩; have hs2 := hk2.1
      have ha3 : Below w2.heap.size w2 W3 := by rw [← hW3]; exact (Below.refl _ w2).alloc (Nat.le_refl _) _
      have ht3 : W3.heap[w2.heap.size]? = some (.cells #[.int .i64 t.f0, .string t.f1, .slice A2 t.f2.length c2] 44 (0, 0)) := by rw [← hW3]; exact blk_new _ _
      have hs3 : W3.heap.size = w2.heap.size + 1 := by rw [← hW3]; simp
      have hN3 : Kd.N k44 44 W3 w.heap.size (fun j => ((P j ∧ j < w.heap.size) ∨ w.heap.size < j) ∧ j ≠ w2.heap.size) u4 ys :=
        Kd.N_below (Kd.N_elderB (Kd.N_keep HN.out hk2 (fun j hj => by rcases hj with h | h; have := h.2; omega; omega)) w2.heap.size (Nat.le_refl _)) ha3
      have hR3 := hR2.below ha3; have hF3 := F_old hF2 (ha3.mono (by omega)); have hB3 : Below w.heap.size w W3 := HB.out.trans (hb2.trans (ha3.mono (by omega))); rw [hW3]; clear hW3 hF2 hR2 hb2 hk2 ha3 HN HR HB HA; obtain ⟨t0, t1, t2, tf0, tf1, tf2⟩ := blk3 ht3; have HT3 := Aside0.mk ht3; have HN3 := Aside0.mk hN3; have HR3 := Aside0.mk hR3; have HF3 := Aside0.mk hF3; have HB3 := Aside0.mk hB3; clear ht3 hN3 hR3 hF3 hB3
      by_cases c4 : t.f0 = 4
      · rw [if_pos c4] at H; obtain ⟨⟨q1, q2⟩, hq, H⟩ := Option.bind_eq_some_iff.1 H; have H' : (if q2 = true then (if ys.length < 2932031007402 then meta_dn.l0 k1 (ys ++ [(⟨t.f0, t.f1, q1⟩ : S44)]) rest else none) else some ([], false)) = some (r1, r2) := H; clear H; have c4b : (t.f0 == 4) = true := beq_iff_eq.2 c4; clear c4
        go_upto_region 10 with (go_at_call 36; refine (ih k1 (by have := HK1.out; omega) (fun j => P j ∧ j < w.heap.size) A2 c2 t.f2 q1 q2 W3 (Kd.V_mk hl2 HF3.out) hq).mono ?_; rintro e w4 ⟨v0, rfl, hN4, hb4⟩; obtain ⟨A4, c4', rfl⟩ := Kd.N_slice hN4; obtain ⟨t0, t1, t2, tf0, tf1, tf2⟩ := blk3 (q16 HT3.out hb4))
        have hs4 := hb4.size; have hl4 := (Kd.N_reads' hN4).2.1; have hF4 := Kd.N_F hN4; obtain ⟨W5, hW5⟩ : ∃ W5, w4.setCell ⟨w2.heap.size, 2, none⟩ (.slice A4 q1.length c4') = W5 := ⟨_, rfl⟩
        have hset : ∀ j, j ≠ w2.heap.size → W5.heap[j]? = w4.heap[j]? := fun j hj => by rw [← hW5]; exact Below.heap_setCell _ _ _ _ (by simpa using hj)
        have ht5 : W5.heap[w2.heap.size]? = some (.cells #[.int .i64 t.f0, .string t.f1, .slice A4 q1.length c4'] 44 (0, 0)) := by rw [← hW5]; exact q17 (q16 HT3.out hb4) 2 _ rfl
        have hs5 : w2.heap.size + 1 ≤ W5.heap.size := by rw [← hW5]; simp [World.setCell]; omega
        have hN5 : Kd.N k44 44 W5 w.heap.size (fun j => ((P j ∧ j < w.heap.size) ∨ w.heap.size < j) ∧ j ≠ w2.heap.size) u4 ys := Kd.N_step (Kd.N_below HN3.out hb4) fun j hj _ => hset j hj.2
        have hR5 : IsRd W5 w.heap.size (fun j => P j ∧ j < w.heap.size) rest := by
          obtain ⟨A, c, h1, h2, h3⟩ := HR3.out.below hb4; exact ⟨A, c, (hset _ (by omega)).trans h1, h2, Kd.F_step h3 fun j hj _ => hset j (by have := hj.2; omega)⟩
        have hB5 : Below w.heap.size w W5 := by rw [← hW5]; exact (HB3.out.trans (hb4.mono (by omega))).setCell (by simp; omega) _
        have hFE : Kd.F k44 W5 (fun j => (P j ∧ j < w.heap.size) ∨ W3.heap.size ≤ j) A4 q1.length q1 := Kd.F_step hF4 fun j hj _ => hset j (by rcases hj with h | h; have := h.2; omega; omega)
        have hlt4 := Kd.N_lt HN3.out; have hbs4 := Kd.N_base HN3.out
        have hokE : ∀ j, ((P j ∧ j < w.heap.size) ∨ W3.heap.size ≤ j) → (((P j ∧ j < w.heap.size) ∨ w.heap.size < j) ∧ j ≠ w2.heap.size) ∧ some j ≠ u4.ownBlock := fun j hj =>
          ⟨⟨hj.elim (fun h => .inl h) (fun h => .inr (by omega)), by rcases hj with h | h; have := h.2; omega; omega⟩, fun e_ => by have := hlt4 j e_.symm; have := hbs4 j e_.symm; rcases hj with h | h; have := h.2; omega; omega⟩
        rw [hW5]; clear hs4 hW5 hset hF4 hN4 t0 t1 t2 tf0 tf1 tf2; have HT5 := Aside0.mk ht5; have HN5 := Aside0.mk hN5; have HR5 := Aside0.mk hR5; have HB5 := Aside0.mk hB5; have HFE := Aside0.mk hFE; have hlE : q1.length ≤ c4' := hl4; clear ht5 hN5 hR5 hB5 hFE hb4
        by_cases cq : q2 = true
        · subst cq; rw [if_pos rfl] at H'
          have hlim : ys.length < 2932031007402 := by
            by_cases c : ys.length < 2932031007402
            · exact c
            · rw [if_neg c] at H'; cases H'
          rw [if_pos hlim] at H'; obtain ⟨t0, t1, t2, tf0, tf1, tf2⟩ := blk3 HT5.out; have hnb : some w.heap.size ≠ u4.ownBlock := Kd.N_away HN5.out (fun j hj => by rcases hj.1 with h | h; have := h.2; omega; omega); have hob := Kd.N_base HN5.out
          go_wp2_with (first | ((with_reducible refine gate_builtin (b := .append) (xs := #[.tmp 40, .tmp 42]) rfl ?_); at_builtin; refine Kd.N_append k44 (w0 := w) w.heap.size rfl (.tmp 40) (.tmp 42) 22 44 (.agg #[(.int .i64 0), (.string ⟨#[]⟩), (.slice none 0 0)]) 48 rfl Try.underlying22 info44 rfl (by decide) (by omega) u4 ys (⟨t.f0, t.f1, q1⟩ : S44) [.int .i64 (⟨t.f0, t.f1, q1⟩ : S44).f0, .string (⟨t.f0, t.f1, q1⟩ : S44).f1, .slice A4 q1.length c4'] (fun j => ((P j ∧ j < w.heap.size) ∨ w.heap.size < j) ∧ j ≠ w2.heap.size) (fun j => (P j ∧ j < w.heap.size) ∨ W3.heap.size ≤ j) rfl rfl ?aP ?aQ ?aF ?aO ?aB ?aS ?aL ?_; (case aP => exact k44_mkF _ _ (⟨t.f0, t.f1, q1⟩ : S44) hlE HFE.out); (case aQ => exact hokE); (case aB => exact HB5.out); (case aF => exact fun j hj => ⟨.inr (by omega), by omega⟩); (case aO => exact HN5.out); (case aS => omega); (case aL => omega); intro v1 w6 ho hb hg hat; have HR6 := Aside0.mk (HR5.out.grown hg hnb (fun j hj => fun e_ => by have := hob j e_.symm; have := hj.2; omega)); have HO6 := Aside0.mk ho; have HB6 := Aside0.mk hb; clear ho hb hg hat))
          go_roundg k1
          case measure => have := HK1.out; omega
          case rel => exact ⟨ys ++ [(⟨t.f0, t.f1, q1⟩ : S44)], rest, ⟨H'⟩, ⟨by have := HK1.out; omega⟩, ⟨Kd.N_mono HO6.out (fun j hj => hj.1)⟩, HR6, HB6⟩
        · rw [if_neg cq] at H'; obtain rfl := Bool.eq_false_iff.2 cq; simp only [Option.some.injEq, Prod.mk.injEq] at H'; obtain ⟨rfl, rfl⟩ := H'
          go_wp2
          go_ret2
          exact ⟨_, rfl, Kd.N_nil _ _ _ _ _, HB5.out⟩
      · rw [if_neg c4] at H; have c4b : (t.f0 == 4) = false := beq_eq_false_iff_ne.2 c4; clear c4
        by_cases cs : isCharB t [42] = true
        · rw [if_pos cs] at H; obtain ⟨⟨x9, l9, q2⟩, hq, H⟩ := Option.bind_eq_some_iff.1 H; have H' : (if q2 = true then (if ys.length < 2932031007402 then meta_dn.l0 k1 (ys ++ [x9]) l9 else none) else some ([], false)) = some (r1, r2) := H; clear H
          go_upto_region 9 with (go_at_call 61; refine (meta_isChar.calls t.f0 t.f1 A2 c2 t.f2 ⟨#[42]⟩ true W3 (Kd.F_now HF3.out) hl2 ((isChar_eq t ⟨#[42]⟩).trans (by rw [Go.ByteArray.toList_eq]; exact congrArg some cs))).mono ?_; rintro e w4 ⟨rfl, hb4⟩)
          have hs4 := hb4.size; have hR4 := HR3.out.below hb4; have hN4 := Kd.N_below HN3.out hb4; have hB4 : Below w.heap.size w w4 := HB3.out.trans (hb4.mono (by omega)); have ht4 := q16 HT3.out hb4; have hlt4 := Kd.N_lt hN4; have hbs4 := Kd.N_base hN4; clear hb4 t0 t1 t2 tf0 tf1 tf2 HT3 HN3 HR3 HF3 HB3; have HR4 := Aside0.mk hR4; have HN4 := Aside0.mk hN4; have HB4 := Aside0.mk hB4; have HT4 := Aside0.mk ht4; clear hR4 hN4 hB4 ht4
          go_upto_region 10 with (go_at_call 62; refine (meta_starred.calls (fun l => meta_dn.f k1 l) (ih k1 (by have := HK1.out; omega)) w.heap.size w.heap.size P rest w4 (Nat.le_refl _) HR4.out (x9, l9, q2) hq).mono ?_; rintro e w5 ⟨⟨A5, c5, rfl, hl5, hF5⟩, hR5, hb5, hk5⟩; obtain ⟨t0, t1, t2, tf0, tf1, tf2⟩ := blk3 ((hk5.2 w2.heap.size (by omega) (by omega) (by simp)).trans HT4.out))
          obtain ⟨W6, hW6⟩ : ∃ W6, ((w5.setCell ⟨w2.heap.size, 0, none⟩ (.int .i64 x9.f0)).setCell ⟨w2.heap.size, 1, none⟩ (.string x9.f1)).setCell ⟨w2.heap.size, 2, none⟩ (.slice A5 x9.f2.length c5) = W6 := ⟨_, rfl⟩
          have hset : ∀ j, j ≠ w2.heap.size → W6.heap[j]? = w5.heap[j]? := by rw [← hW6]; exact set3 w5 w2.heap.size _ _ _
          have hsk5 := hk5.1
          have ht6 : W6.heap[w2.heap.size]? = some (.cells #[.int .i64 x9.f0, .string x9.f1, .slice A5 x9.f2.length c5] 44 (0, 0)) := by
            rw [← hW6]; exact q17 (q17 (q17 ((hk5.2 w2.heap.size (by omega) (by omega) (by simp)).trans HT4.out) 0 _ rfl) 1 _ rfl) 2 _ rfl
          have hs6 : w2.heap.size + 1 ≤ W6.heap.size := by rw [← hW6]; simp [World.setCell]; omega
          have hN6 : Kd.N k44 44 W6 w.heap.size (fun j => ((P j ∧ j < w.heap.size) ∨ w.heap.size < j) ∧ j ≠ w2.heap.size) u4 ys := Kd.N_step (Kd.N_keep HN4.out hk5 (fun j hj => by rcases hj.1 with h | h; have := h.2; omega; omega)) fun j hj _ => hset j hj.2
          have hR6 : IsRd W6 w.heap.size (fun j => P j ∧ j < w.heap.size) l9 := by
            obtain ⟨A, c, h1, h2, h3⟩ := hR5; exact ⟨A, c, (hset _ (by omega)).trans h1, h2, Kd.F_step h3 fun j hj _ => hset j (by have := hj.2; omega)⟩
          have hB6 : Below w.heap.size w W6 := by rw [← hW6]; exact below_set3 (HB4.out.trans hb5) _ (by omega) _ _ _
          have hFE : Kd.F k44 W6 (fun j => (P j ∧ j < w.heap.size) ∨ w4.heap.size ≤ j) A5 x9.f2.length x9.f2 := Kd.F_step hF5 fun j hj _ => hset j (by rcases hj with h | h; have := h.2; omega; omega)
          have hokE : ∀ j, ((P j ∧ j < w.heap.size) ∨ w4.heap.size ≤ j) → (((P j ∧ j < w.heap.size) ∨ w.heap.size < j) ∧ j ≠ w2.heap.size) ∧ some j ≠ u4.ownBlock := fun j hj =>
            ⟨⟨hj.elim (fun h => .inl h) (fun h => .inr (by omega)), by rcases hj with h | h; have := h.2; omega; omega⟩, fun e_ => by have := hlt4 j e_.symm; have := hbs4 j e_.symm; rcases hj with h | h; have := h.2; omega; omega⟩
          rw [hW6]; clear hsk5 hW6 hset hF5 hR5 hb5 hk5 t0 t1 t2 tf0 tf1 tf2; have HT5 := Aside0.mk ht6; have HN5 := Aside0.mk hN6; have HR5 := Aside0.mk hR6; have HB5 := Aside0.mk hB6; have HFE := Aside0.mk hFE; have hlE : x9.f2.length ≤ c5 := hl5; clear ht6 hN6 hR6 hB6 hFE
          by_cases cq : q2 = true
          · subst cq; rw [if_pos rfl] at H'
            have hlim : ys.length < 2932031007402 := by
              by_cases c : ys.length < 2932031007402
              · exact c
              · rw [if_neg c] at H'; cases H'
            rw [if_pos hlim] at H'; obtain ⟨t0, t1, t2, tf0, tf1, tf2⟩ := blk3 HT5.out; have hnb : some w.heap.size ≠ u4.ownBlock := Kd.N_away HN5.out (fun j hj => by rcases hj.1 with h | h; have := h.2; omega; omega); have hob := Kd.N_base HN5.out
            go_wp2_with (first | ((with_reducible refine gate_builtin (b := .append) (xs := #[.tmp 40, .tmp 42]) rfl ?_); at_builtin; refine Kd.N_append k44 (w0 := w) w.heap.size rfl (.tmp 40) (.tmp 42) 22 44 (.agg #[(.int .i64 0), (.string ⟨#[]⟩), (.slice none 0 0)]) 48 rfl Try.underlying22 info44 rfl (by decide) (by omega) u4 ys x9 [.int .i64 x9.f0, .string x9.f1, .slice A5 x9.f2.length c5] (fun j => ((P j ∧ j < w.heap.size) ∨ w.heap.size < j) ∧ j ≠ w2.heap.size) (fun j => (P j ∧ j < w.heap.size) ∨ w4.heap.size ≤ j) rfl rfl ?aP ?aQ ?aF ?aO ?aB ?aS ?aL ?_; (case aP => exact k44_mkF _ _ x9 hlE HFE.out); (case aQ => exact hokE); (case aB => exact HB5.out); (case aF => exact fun j hj => ⟨.inr (by omega), by omega⟩); (case aO => exact HN5.out); (case aS => omega); (case aL => omega); intro v1 w6 ho hb hg hat; have HR6 := Aside0.mk (HR5.out.grown hg hnb (fun j hj => fun e_ => by have := hob j e_.symm; have := hj.2; omega)); have HO6 := Aside0.mk ho; have HB6 := Aside0.mk hb; clear ho hb hg hat))
            go_roundg k1
            case measure => have := HK1.out; omega
            case rel => exact ⟨ys ++ [x9], l9, ⟨H'⟩, ⟨by have := HK1.out; omega⟩, ⟨Kd.N_mono HO6.out (fun j hj => hj.1)⟩, HR6, HB6⟩
          · rw [if_neg cq] at H'; obtain rfl := Bool.eq_false_iff.2 cq; simp only [Option.some.injEq, Prod.mk.injEq] at H'; obtain ⟨rfl, rfl⟩ := H'
            go_wp2
            go_ret2
            exact ⟨_, rfl, Kd.N_nil _ _ _ _ _, HB5.out⟩
        · rw [if_neg cs] at H; have H' := H; clear H
          go_upto_region 10 with (go_at_call 61; refine (meta_isChar.calls t.f0 t.f1 A2 c2 t.f2 ⟨#[42]⟩ false W3 (Kd.F_now HF3.out) hl2 ((isChar_eq t ⟨#[42]⟩).trans (by rw [Go.ByteArray.toList_eq]; exact congrArg some (Bool.eq_false_iff.2 cs)))).mono ?_; rintro e w4 ⟨rfl, hb4⟩)
          have hs4 := hb4.size; have hlt4 := Kd.N_lt HN3.out; have hbs4 := Kd.N_base HN3.out; have HT5 := Aside0.mk (q16 HT3.out hb4); have HN5 := Aside0.mk (Kd.N_below HN3.out hb4); have HR5 := Aside0.mk (HR3.out.below hb4); have HB5 : Aside0 (Below w.heap.size w w4) := ⟨HB3.out.trans (hb4.mono (by omega))⟩; have HFE : Aside0 (Kd.F k44 w4 (fun j => (P j ∧ j < w.heap.size) ∨ False) A2 t.f2.length t.f2) := ⟨Kd.F_mono (F_old HF3.out (hb4.mono (by omega))) fun j hj => .inl hj⟩; have hlE := hl2
          have hokE : ∀ j, ((P j ∧ j < w.heap.size) ∨ False) → (((P j ∧ j < w.heap.size) ∨ w.heap.size < j) ∧ j ≠ w2.heap.size) ∧ some j ≠ u4.ownBlock := fun j hj => by
            rcases hj with h | h
            · exact ⟨⟨.inl h, by have := h.2; omega⟩, fun e_ => by have := hbs4 j e_.symm; have := h.2; omega⟩
            · exact h.elim
          clear hb4 t0 t1 t2 tf0 tf1 tf2
          have hlim : ys.length < 2932031007402 := by
            by_cases c : ys.length < 2932031007402
            · exact c
            · rw [if_neg c] at H'; cases H'
          rw [if_pos hlim] at H'; obtain ⟨t0, t1, t2, tf0, tf1, tf2⟩ := blk3 HT5.out; have hnb : some w.heap.size ≠ u4.ownBlock := Kd.N_away HN5.out (fun j hj => by rcases hj.1 with h | h; have := h.2; omega; omega); have hob := Kd.N_base HN5.out
          go_wp2_with (first | ((with_reducible refine gate_builtin (b := .append) (xs := #[.tmp 40, .tmp 42]) rfl ?_); at_builtin; refine Kd.N_append k44 (w0 := w) w.heap.size rfl (.tmp 40) (.tmp 42) 22 44 (.agg #[(.int .i64 0), (.string ⟨#[]⟩), (.slice none 0 0)]) 48 rfl Try.underlying22 info44 rfl (by decide) (by omega) u4 ys t [.int .i64 t.f0, .string t.f1, .slice A2 t.f2.length c2] (fun j => ((P j ∧ j < w.heap.size) ∨ w.heap.size < j) ∧ j ≠ w2.heap.size) (fun j => (P j ∧ j < w.heap.size) ∨ False) rfl rfl ?aP ?aQ ?aF ?aO ?aB ?aS ?aL ?_; (case aP => exact k44_mkF _ _ t hlE HFE.out); (case aQ => exact hokE); (case aB => exact HB5.out); (case aF => exact fun j hj => ⟨.inr (by omega), by omega⟩); (case aO => exact HN5.out); (case aS => omega); (case aL => omega); intro v1 w6 ho hb hg hat; have HR6 := Aside0.mk (HR5.out.grown hg hnb (fun j hj => fun e_ => by have := hob j e_.symm; have := hj.2; omega)); have HO6 := Aside0.mk ho; have HB6 := Aside0.mk hb; clear ho hb hg hat))
          go_roundg k1
          case measure => have := HK1.out; omega
          case rel => exact ⟨ys ++ [t], rest, ⟨H'⟩, ⟨by have := HK1.out; omega⟩, ⟨Kd.N_mono HO6.out (fun j hj => hj.1)⟩, HR6, HB6⟩
theorem meta_dn.calls (k : Nat) (P0_ : Nat → Prop) (A0 : Option Addr) (c0 : Nat) (l0 : List S44) (r1 : List S44) (r2 : Bool) (w : World) (hs0 : Kd.V k44 44 w w.heap.size (fun k_ => P0_ k_) (.slice A0 l0.length c0) l0) (h : meta_dn.f k l0 = some (r1, r2)) :
    Calls Try.prog 36 #[.slice A0 l0.length c0] w fun e w' => ∃ v0_ : Value, e = .returned (.tuple #[v0_, .bool r2]) ∧ Kd.N k44 44 w' w.heap.size (fun k_ => P0_ k_ ∨ w.heap.size ≤ k_) v0_ r1 ∧ Below w.heap.size w w' :=
  meta_dn.holds k P0_ A0 c0 l0 r1 r2 w hs0 h
end
end Go.Proofs.Ytnffhiiihegjbaa.MD
