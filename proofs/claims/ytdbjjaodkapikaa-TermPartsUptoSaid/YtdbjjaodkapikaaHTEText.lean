/- term.Text. -/
import Derived.Test.YtdbjjaodkapikaaHTEWrites
import Derived.Test.YtdbjjaodkapikaaHShelf
namespace Go.Proofs.Ytdbjjaodkapikaa.TE
open Go.RowKit Go.Shelf Go.Proofs.YtdbjjaodkapikaaW.PrintWords Go.Proofs.YtdbjjaodkapikaaW.PrintLast Go.Proofs.YtdbjjaodkapikaaW.PrintMore Go.Proofs.Ytdbjjaodkapikaa.Evs
set_option linter.unusedVariables false
set_option linter.unusedSimpArgs false
def textS (r : Int) (l : List Tm) : ByteArray := if r = 0 ∧ (txl none l).length ≤ 40000 then ⟨(txl none l).toArray⟩ else ⟨#[]⟩
def textE (r : Int) (l : List Tm) : Int := if r = 0 then (if (txl none l).length ≤ 40000 then 0 else 7) else r
set_option maxRecDepth 100000 in
set_option maxHeartbeats 4000000 in
theorem Text.calls (k : Nat) (A : Option Addr) (c : Nat) (l : List Tm) (r : Int) (w : World) (hC : Kd.C k42 w A l.length l) (hc : l.length ≤ c) (hres : term_Result.f k l = some r) (hok : r = 0 → Wok l ∧ (txl none l).length ≤ 131941395333120) :
    Calls Try.prog 12 #[.slice A l.length c] w fun e w' => e = .returned (.tuple #[.string (textS r l), .int .i64 (textE r l)]) ∧ Below w.heap.size w w' := by
  have HRES := Aside0.mk (term_Result.calls k A c l r w hC hc hres); have HC := Aside0.mk hC; have HOK := Aside0.mk hok; clear hC hok hres
  by_cases h0 : r = 0
  · subst h0; obtain ⟨hwok, hlen⟩ := HOK.out rfl; have HWOK := Aside0.mk hwok; have HLEN := Aside0.mk hlen; clear HOK hwok hlen; obtain ⟨L, hL⟩ : ∃ L, L = txl none l := ⟨_, rfl⟩
    have hts : textS 0 l = if L.length ≤ 40000 then ⟨L.toArray⟩ else ⟨#[]⟩ := by unfold textS; rw [hL]; simp
    have hte : textE 0 l = if L.length ≤ 40000 then 0 else 7 := by unfold textE; rw [if_pos rfl, hL]
    have HTS := Aside0.mk hts; have HTE := Aside0.mk hte; have HL := Aside0.mk hL; clear hts hte hL
    go_enter Try.func12, Try.ntmps12
    go_wp2_with fail
    refine HRES.out.mono ?_; rintro e w1 ⟨rfl, hb1⟩; have HB1 := Aside0.mk hb1; clear hb1 HRES
    go_wp2_with fail
    have hB0 : Below w1.heap.size w1 (w1.alloc (.cells #[.pointer none, .slice none 0 0] 64)) := (Below.refl _ _).alloc (Nat.le_refl _) _; have hIs : IsB w1.heap.size w1.heap.size [] (w1.alloc (.cells #[.pointer none, .slice none 0 0] 64)) := Lib.fresh_isBuilder _ _ w1; obtain ⟨W0, hW0⟩ : ∃ W0, w1.alloc (.cells #[.pointer none, .slice none 0 0] 64) = W0 := ⟨_, rfl⟩; rw [hW0] at hB0 hIs ⊢; refine (write.calls w1 w1.heap.size w1.heap.size _ A c l [] W0 (Nat.le_refl _) (Kd.C_below HC.out HB1.out) hc HWOK.out hB0 (Nat.le_refl _) hB0.size hIs (by have := HLEN.out; simpa using this)).mono ?_; rintro e w2 ⟨rfl, hx, hb2⟩; rw [← HL.out, List.nil_append] at hx; have HX := Aside0.mk hx; have HS2 := Aside0.mk (Nat.le_trans hB0.size hb2.size); have HB2 := Aside0.mk (HB1.out.trans ((hB0.trans hb2).mono HB1.out.size)); clear hx hb2 hB0 hIs hW0
    by_cases hn : L.length ≤ 40000
    · have e1 : decide ((40000 : Int) < (L.length : Int)) = false := decide_eq_false (by omega); have HN := Aside0.mk hn; clear hn
      go_wp2_with (first | (go_at_call 57; refine (Try.Builder_Len w1.heap.size w1.heap.size _ _ HX.out).mono ?_; rintro e w' ⟨rfl, hw'⟩; rw [hw', Lib.byteCells_length]) | (go_at_call 58; refine (Try.Builder_String_any w1.heap.size w1.heap.size L _ HX.out HS2.out).mono ?_; rintro e w3 ⟨rfl, hb3⟩; have HB3 := Aside0.mk (HB2.out.trans (hb3.mono HB1.out.size)); clear hb3) | fail)
      go_ret2
      exact ⟨by rw [HTS.out, HTE.out, if_pos HN.out, if_pos HN.out]; rfl, HB3.out⟩
    · have e1 : decide ((40000 : Int) < (L.length : Int)) = true := decide_eq_true (by omega); have HN := Aside0.mk hn; clear hn
      go_wp2_with (first | (go_at_call 57; refine (Try.Builder_Len w1.heap.size w1.heap.size _ _ HX.out).mono ?_; rintro e w' ⟨rfl, hw'⟩; rw [hw', Lib.byteCells_length]) | fail)
      go_ret2
      exact ⟨by rw [HTS.out, HTE.out, if_neg HN.out, if_neg HN.out]; rfl, HB2.out⟩
  · have h1 : (r != 0) = true := by simp; exact h0
    have hts : textS r l = ⟨#[]⟩ := by unfold textS; rw [if_neg (by intro h; exact h0 h.1)]
    have hte : textE r l = r := by unfold textE; rw [if_neg h0]
    rw [hts, hte]; clear hts hte h0 HOK
    go_enter Try.func12, Try.ntmps12
    go_wp2_with fail
    refine HRES.out.mono ?_; rintro e w1 ⟨rfl, hb1⟩; have HB1 := Aside0.mk hb1; clear hb1 HRES
    go_wp2_with fail
    go_ret2
    exact ⟨rfl, HB1.out⟩
end Go.Proofs.Ytdbjjaodkapikaa.TE
