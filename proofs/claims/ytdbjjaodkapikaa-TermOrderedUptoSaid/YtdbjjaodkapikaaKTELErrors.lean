/- The law TermErrors, by hand. -/
import Derived.Test.YtdbjjaodkapikaaKTEWrites
import Derived.Test.YtdbjjaodkapikaaKShelf
import Derived.Test.YtdbjjaodkapikaaKTEIb
import Derived.Deep.LoopGhost
import Derived.Test.YtdbjjaodkapikaaKTEPlain
section
namespace Go.Proofs.Ytdbjjaodkapikaa.TE
open Go.RowKit Go.Shelf Go.Proofs.YtdbjjaodkapikaaW.PrintWords Go.Proofs.YtdbjjaodkapikaaW.PrintLast Go.Proofs.YtdbjjaodkapikaaW.PrintMore Go.Proofs.Ytdbjjaodkapikaa.Evs
set_option linter.unusedVariables false
set_option linter.unusedSimpArgs false
def textS (r : Int) (l : List Tm) : ByteArray := if r = 0 ∧ (txl none l).length ≤ 40000 then ⟨(txl none l).toArray⟩ else ⟨#[]⟩
def textE (r : Int) (l : List Tm) : Int := if r = 0 then (if (txl none l).length ≤ 40000 then 0 else 7) else r
set_option maxRecDepth 100000 in
set_option maxHeartbeats 4000000 in
theorem Text.calls (k : Nat) (A : Option Addr) (c : Nat) (l : List Tm) (r : Int) (w : World) (hC : Kd.C k42 w A l.length l) (hc : l.length ≤ c) (hres : term_Result.f k l = some r) (hok : r = 0 → Wok l ∧ (txl none l).length ≤ 131941395333120) :
    Calls Try.prog 12 #[.slice A l.length c] w fun e w' => e = .returned (.tuple #[.string (textS r l), .int .i64 (textE r l)]) ∧ Below w.heap.size w w' := by
  have HRES := Aside0.mk (term_Result.calls k A c l r w hC hc hres); have HC := Aside0.mk hC; have HOK := Aside0.mk hok; clear hC hok hres
  by_cases h0 : r = 0
  · subst h0; obtain ⟨hwok, hlen⟩ := HOK.out rfl; have HWOK := Aside0.mk hwok; have HLEN := Aside0.mk hlen; clear HOK hwok hlen; obtain ⟨L, hL⟩ : ∃ L, L = txl none l := ⟨_, rfl⟩
    have hts : textS 0 l = if L.length ≤ 40000 then ⟨L.toArray⟩ else ⟨#[]⟩ := by unfold textS; rw [hL]; simp
    have hte : textE 0 l = if L.length ≤ 40000 then 0 else 7 := by unfold textE; rw [if_pos rfl, hL]
    have HTS := Aside0.mk hts; have HTE := Aside0.mk hte; have HL := Aside0.mk hL; clear hts hte hL
    go_enter Try.func12, Try.ntmps12
    go_wp2_with fail
    refine HRES.out.mono ?_; rintro e w1 ⟨rfl, hb1⟩; have HB1 := Aside0.mk hb1; clear hb1 HRES
    go_wp2_with fail
    have hB0 : Below w1.heap.size w1 (w1.alloc (.cells #[.pointer none, .slice none 0 0] 64)) := (Below.refl _ _).alloc (Nat.le_refl _) _; have hIs : IsB w1.heap.size w1.heap.size [] (w1.alloc (.cells #[.pointer none, .slice none 0 0] 64)) := Lib.fresh_isBuilder _ _ w1; obtain ⟨W0, hW0⟩ : ∃ W0, w1.alloc (.cells #[.pointer none, .slice none 0 0] 64) = W0 := ⟨_, rfl⟩; rw [hW0] at hB0 hIs ⊢; refine (write.calls w1 w1.heap.size w1.heap.size _ A c l [] W0 (Nat.le_refl _) (Kd.C_below HC.out HB1.out) hc HWOK.out hB0 (Nat.le_refl _) hB0.size hIs (by have := HLEN.out; simpa using this)).mono ?_; rintro e w2 ⟨rfl, hx, hb2⟩; rw [← HL.out, List.nil_append] at hx; have HX := Aside0.mk hx; have HS2 := Aside0.mk (Nat.le_trans hB0.size hb2.size); have HB2 := Aside0.mk (HB1.out.trans ((hB0.trans hb2).mono HB1.out.size)); clear hx hb2 hB0 hIs hW0
    by_cases hn : L.length ≤ 40000
    · have e1 : decide ((40000 : Int) < (L.length : Int)) = false := decide_eq_false (by omega); have HN := Aside0.mk hn; clear hn
      go_wp2_with (first | (go_at_call 57; refine (Try.Builder_Len w1.heap.size w1.heap.size _ _ HX.out).mono ?_; rintro e w' ⟨rfl, hw'⟩; rw [hw', Lib.byteCells_length]) | (go_at_call 58; refine (Try.Builder_String_any w1.heap.size w1.heap.size L _ HX.out HS2.out).mono ?_; rintro e w3 ⟨rfl, hb3⟩; have HB3 := Aside0.mk (HB2.out.trans (hb3.mono HB1.out.size)); clear hb3) | fail)
      go_ret2
      exact ⟨by rw [HTS.out, HTE.out, if_pos HN.out, if_pos HN.out]; rfl, HB3.out⟩
    · have e1 : decide ((40000 : Int) < (L.length : Int)) = true := decide_eq_true (by omega); have HN := Aside0.mk hn; clear hn
      go_wp2_with (first | (go_at_call 57; refine (Try.Builder_Len w1.heap.size w1.heap.size _ _ HX.out).mono ?_; rintro e w' ⟨rfl, hw'⟩; rw [hw', Lib.byteCells_length]) | fail)
      go_ret2
      exact ⟨by rw [HTS.out, HTE.out, if_neg HN.out, if_neg HN.out]; rfl, HB2.out⟩
  · have h1 : (r != 0) = true := by simp; exact h0
    have hts : textS r l = ⟨#[]⟩ := by unfold textS; rw [if_neg (by intro h; exact h0 h.1)]
    have hte : textE r l = r := by unfold textE; rw [if_neg h0]
    rw [hts, hte]; clear hts hte h0 HOK
    go_enter Try.func12, Try.ntmps12
    go_wp2_with fail
    refine HRES.out.mono ?_; rintro e w1 ⟨rfl, hb1⟩; have HB1 := Aside0.mk hb1; clear hb1 HRES
    go_wp2_with fail
    go_ret2
    exact ⟨rfl, HB1.out⟩
end Go.Proofs.Ytdbjjaodkapikaa.TE
end
section
namespace Go.Proofs.Ytdbjjaodkapikaa.TE
open Go.RowKit Go.Shelf Go.Proofs.YtdbjjaodkapikaaW.PrintWords Go.Proofs.YtdbjjaodkapikaaW.PrintLast Go.Proofs.YtdbjjaodkapikaaW.PrintMore Go.Proofs.Ytdbjjaodkapikaa.Evs
set_option linter.unusedVariables false
set_option linter.unusedSimpArgs false
def s0 : ByteArray := ⟨#[39, 97, 98, 39, 32, 115, 46, 49, 32, 40, 60, 70, 32, 101, 46, 120, 62, 41]⟩
def tA : List Tm := [⟨1, ⟨#[97]⟩, []⟩, ⟨1, ⟨#[98]⟩, []⟩]
def cS : List Value := [.int .i64 5, .string ⟨#[49]⟩, .slice none 0 0]
def cE : List Value := [.int .i64 7, .string ⟨#[120]⟩, .slice none 0 0]
def Ap (v v' : Value) : Prop := ∀ b, v.ownBlock = some b → v'.ownBlock ≠ some b
abbrev vnil : Value := .slice none 0 0
def Sx (B k : Nat) (vl vs : Value) (W : World) : Prop :=
  match k with
  | 0 => vl = vnil ∧ vs = vnil
  | 1 => vs = vnil ∧ ∃ cs, W.ownsRow B 42 3 vl 2 cs ∧ Flat tA cs
  | 2 => vs = vnil ∧ ∃ cs, W.ownsRow B 42 3 vl 3 (cs ++ cS) ∧ Flat tA cs
  | 3 => vl = vnil ∧ ∃ cs v1, W.ownsRow B 42 3 v1 3 (cs ++ cS) ∧ Flat tA cs ∧ W.ownsRow B 122 4 vs 1 [v1, .int .i64 4, .string ⟨#[]⟩, vnil]
  | 4 => vl = vnil ∧ ∃ cs v1, W.ownsRow B 42 3 v1 3 (cs ++ cS) ∧ Flat tA cs ∧ W.ownsRow B 122 4 vs 2 [v1, .int .i64 4, .string ⟨#[]⟩, vnil, vnil, .int .i64 8, .string ⟨#[70]⟩, vnil]
  | 5 => ∃ cs v1, W.ownsRow B 42 3 v1 3 (cs ++ cS) ∧ Flat tA cs ∧ W.ownsRow B 122 4 vs 2 [v1, .int .i64 4, .string ⟨#[]⟩, vnil, vnil, .int .i64 8, .string ⟨#[70]⟩, vnil] ∧ W.ownsRow B 42 3 vl 1 cE ∧ Ap vl v1
  | 6 => ∃ cs v1 v2, W.ownsRow B 42 3 v1 3 (cs ++ cS) ∧ Flat tA cs ∧ W.ownsRow B 122 4 vs 1 [v1, .int .i64 4, .string ⟨#[]⟩, vnil] ∧ W.ownsRow B 42 3 v2 1 cE ∧ W.ownsRow B 42 3 vl 1 [.int .i64 8, .string ⟨#[70]⟩, v2] ∧ Ap v2 v1 ∧ Ap vl v1
  | 7 => ∃ cs v2 v3, (∃ A c, vs = .slice A 0 c) ∧ W.ownsRow B 42 3 vl 4 (cs ++ cS ++ [.int .i64 4, .string ⟨#[]⟩, v3]) ∧ Flat tA cs ∧ W.ownsRow B 42 3 v2 1 cE ∧ W.ownsRow B 42 3 v3 1 [.int .i64 8, .string ⟨#[70]⟩, v2]
  | _ => False
theorem Sx.keep {B k : Nat} {vl vs : Value} {W W' : World} (h : Sx B k vl vs W) (hk : ∀ e z v n xs, e ≠ 72 → W.ownsRow B e z v n xs → W'.ownsRow B e z v n xs) : Sx B k vl vs W' := by
  unfold Sx at *
  match k, h with
  | 0, h => exact h
  | 1, ⟨h, cs, h1, h2⟩ => exact ⟨h, cs, hk _ _ _ _ _ (by decide) h1, h2⟩
  | 2, ⟨h, cs, h1, h2⟩ => exact ⟨h, cs, hk _ _ _ _ _ (by decide) h1, h2⟩
  | 3, ⟨h, cs, v1, h1, h2, h3⟩ => exact ⟨h, cs, v1, hk _ _ _ _ _ (by decide) h1, h2, hk _ _ _ _ _ (by decide) h3⟩
  | 4, ⟨h, cs, v1, h1, h2, h3⟩ => exact ⟨h, cs, v1, hk _ _ _ _ _ (by decide) h1, h2, hk _ _ _ _ _ (by decide) h3⟩
  | 5, ⟨cs, v1, h1, h2, h3, h4, h5⟩ => exact ⟨cs, v1, hk _ _ _ _ _ (by decide) h1, h2, hk _ _ _ _ _ (by decide) h3, hk _ _ _ _ _ (by decide) h4, h5⟩
  | 6, ⟨cs, v1, v2, h1, h2, h3, h4, h5, h6⟩ => exact ⟨cs, v1, v2, hk _ _ _ _ _ (by decide) h1, h2, hk _ _ _ _ _ (by decide) h3, hk _ _ _ _ _ (by decide) h4, hk _ _ _ _ _ (by decide) h5, h6⟩
  | 7, ⟨cs, v2, v3, h0, h1, h2, h3, h4⟩ => exact ⟨cs, v2, v3, h0, hk _ _ _ _ _ (by decide) h1, h2, hk _ _ _ _ _ (by decide) h3, hk _ _ _ _ _ (by decide) h4⟩
def St (B g k p : Nat) (W : World) : Prop := B ≤ g ∧ ∃ vl vs, Pz W g s0 p (-1) vl vs ∧ Sx B k vl vs W
theorem below_fr {B : Nat} {W W' : World} {S : Nat → Prop} (h : Fr W W' S) (hB : B ≤ W.heap.size) (hS : ∀ i, S i → B ≤ i) : Below B W W' :=
  ⟨h.os, h.tape, h.output, h.size, fun k hk => h.block k (by omega) (fun e => by have := hS k e; omega)⟩
theorem longest_st {B g k p : Nat} {W : World} (h : St B g k p W) (hp : p ≤ 18) :
    Calls Try.prog 60 #[.pointer (some ⟨g, 0, none⟩), .int .u8 8] W fun e W' => (∃ v, e = .returned v) ∧ St B g k (endF 8 s0 p) W' ∧ Below B W W' := by
  obtain ⟨hb, vl, vs, hP, hS⟩ := h; refine (longest.calls g s0 p 8 (-1) vl vs W hP (by decide) (show p ≤ s0.size by exact hp)).mono ?_; rintro e W' ⟨rfl, hp', hg⟩; have hgl : g < W.heap.size := (Array.getElem?_eq_some_iff.1 hP).1; exact ⟨⟨_, rfl⟩, ⟨hb, vl, vs, hp', hS.keep (fun e z v n xs he ho => own_grown ho hg (fun b hb e => own_neG ho he hP (by rw [hb]; exact e.symm)))⟩, below_fr (Fr.of_grown (S := fun i => i = g) hg (fun i e => by cases e; rfl)) (by omega) (fun i e => by omega)⟩
theorem own_form {w : World} {base n e z : Nat} {v : Value} {xs : List Value} (h : w.ownsRow base e z v n xs) : ∃ A c, v = .slice A n c := by
  rcases h.2 with ⟨hv, h0⟩ | ⟨b, cap, cur, hv, _⟩
  · exact ⟨none, 0, by rw [hv, h0]⟩
  · exact ⟨_, _, hv⟩
theorem own_form1 {w : World} {base n e z : Nat} {v : Value} {xs : List Value} (h : w.ownsRow base e z v n xs) (hn : 0 < n) : ∃ b c, v = .slice (some ⟨b, 0, none⟩) n c := by
  rcases h.2 with ⟨hv, h0⟩ | ⟨b, cap, cur, hv, _⟩
  · omega
  · exact ⟨_, _, hv⟩
theorem plainly0 : Plainly s0 0 3 := by
  refine ⟨by decide, by decide, fun _ _ => rfl, fun j h h' h1 h2 => ?_⟩
  have : j = 1 ∨ j = 2 := by omega
  rcases this with rfl | rfl
  · exact (by decide : 32 ≤ (s0[1]'(by decide)).toNat ∧ (s0[1]'(by decide)).toNat ≤ 126 ∧ (s0[1]'(by decide)).toNat ≠ 92 ∧ s0[1]'(by decide) ≠ s0[0]'(by decide))
  · exact (by decide : 32 ≤ (s0[2]'(by decide)).toNat ∧ (s0[2]'(by decide)).toNat ≤ 126 ∧ (s0[2]'(by decide)).toNat ≠ 92 ∧ s0[2]'(by decide) ≠ s0[0]'(by decide))
theorem chars0 : term_Chars.f 10 ⟨(between s0 1 2).toArray⟩ = some tA := by kernel_rfl
theorem st0 {B g : Nat} {W : World} (h : St B g 0 0 W) :
    Calls Try.prog 61 #[.pointer (some ⟨g, 0, none⟩)] W fun e W' => e = .returned (.bool true) ∧ St B g 1 4 W' ∧ Below B W W' := by
  obtain ⟨hb, vl, vs, hP, rfl, rfl⟩ := h; have hgl : g < W.heap.size := (Array.getElem?_eq_some_iff.1 hP).1; refine (item_quote.calls g B s0 0 3 10 tA (-1) vnil vnil 0 [] W hP (World.ownsRow_nil _ _ _ _) hb (by decide) rfl (by decide) (by decide) (by decide) plainly0 (by decide) chars0 (by decide) (by decide) (by decide)).mono ?_; rintro e W' ⟨rfl, vl', cs, hp, ho, hf, hn, hF⟩; exact ⟨rfl, ⟨hb, vl', vnil, hp, rfl, cs, ho, hf⟩, below_fr hF (by omega) (fun i e => by rcases e with e | e; (· omega); (· simp [Value.ownBlock] at e))⟩
theorem st1 {B g : Nat} {W : World} (h : St B g 1 5 W) :
    Calls Try.prog 61 #[.pointer (some ⟨g, 0, none⟩)] W fun e W' => e = .returned (.bool true) ∧ St B g 2 8 W' ∧ Below B W W' := by
  obtain ⟨hb, vl, vs, hP, rfl, cs, h1, h2⟩ := h; have hgl : g < W.heap.size := (Array.getElem?_eq_some_iff.1 hP).1; refine (item_var.calls g B s0 5 8 0 10 ⟨#[49]⟩ (-1) vl vnil 2 cs 115 W hP h1 hb (by decide) (by have := h2.len; simpa [tA] using this) (by decide) (by decide) rfl (by decide) (by decide) (by decide) (by decide) (by decide) (by kernel_rfl) (by kernel_rfl) (by kernel_rfl) (by kernel_rfl)).mono ?_; rintro e W' ⟨rfl, vl', hp, ho, hn, hF⟩; exact ⟨rfl, ⟨hb, vl', vnil, hp, rfl, cs, ho, h2⟩, below_fr hF (by omega) (fun i e => by rcases e with e | e; (· omega); (· exact (h1.lt i e.symm).1))⟩
theorem st2 {B g : Nat} {W : World} (h : St B g 2 9 W) :
    Calls Try.prog 61 #[.pointer (some ⟨g, 0, none⟩)] W fun e W' => e = .returned (.bool true) ∧ St B g 3 10 W' ∧ Below B W W' := by
  obtain ⟨hb, vl, vs, hP, rfl, cs, h1, h2⟩ := h; have hgl : g < W.heap.size := (Array.getElem?_eq_some_iff.1 hP).1; obtain ⟨A, c, rfl⟩ := own_form h1; refine (item_open.calls g B s0 9 (-1) A 3 c vnil 0 [] W hP (World.ownsRow_nil _ _ _ _) hb (by decide) (by decide) (by decide) (by decide)).mono ?_; rintro e W' ⟨rfl, vs', hp, ho, hn, hF⟩; have hg1 := own_neG h1 (by decide) hP; exact ⟨rfl, ⟨hb, _, vs', hp, rfl, cs, _, own_fr h1 hF (fun b hb e => by rcases e with e | e; (· exact hg1 (by rw [hb, e])); (· simp [Value.ownBlock] at e)), h2, ho⟩, below_fr hF (by omega) (fun i e => by rcases e with e | e; (· omega); (· simp [Value.ownBlock] at e))⟩
theorem st3 {B g : Nat} {W : World} (h : St B g 3 10 W) :
    Calls Try.prog 61 #[.pointer (some ⟨g, 0, none⟩)] W fun e W' => e = .returned (.bool true) ∧ St B g 4 12 W' ∧ Below B W W' := by
  obtain ⟨hb, vl, vs, hP, rfl, cs, v1, h1, h2, h3⟩ := h; have hgl : g < W.heap.size := (Array.getElem?_eq_some_iff.1 hP).1; refine (item_call.calls g B s0 10 11 12 10 ⟨#[70]⟩ (-1) none 0 0 vs 1 _ W hP h3 hb (by decide) (by decide) (by decide) (by decide) (by kernel_rfl) (by decide) (by kernel_rfl) (by kernel_rfl) (by kernel_rfl) (by kernel_rfl) (by kernel_rfl)).mono ?_; rintro e W' ⟨rfl, vs', hp, ho, hn, hF⟩; have hg1 := own_neG h1 (by decide) hP; have ha := own_apart h1 h3 (by decide); exact ⟨rfl, ⟨hb, _, vs', hp, rfl, cs, v1, own_fr h1 hF (fun b hb e => by rcases e with e | e; (· exact hg1 (by rw [hb, e])); (· exact ha b hb e)), h2, ho⟩, below_fr hF (by omega) (fun i e => by rcases e with e | e; (· omega); (· exact (h3.lt i e.symm).1))⟩
theorem st4 {B g : Nat} {W : World} (h : St B g 4 13 W) :
    Calls Try.prog 61 #[.pointer (some ⟨g, 0, none⟩)] W fun e W' => e = .returned (.bool true) ∧ St B g 5 16 W' ∧ Below B W W' := by
  obtain ⟨hb, vl, vs, hP, rfl, cs, v1, h1, h2, h3⟩ := h; have hgl : g < W.heap.size := (Array.getElem?_eq_some_iff.1 hP).1; refine (item_var.calls g B s0 13 16 2 10 ⟨#[120]⟩ (-1) vnil vs 0 [] 101 W hP (World.ownsRow_nil _ _ _ _) hb (by decide) rfl (by decide) (by decide) rfl (by decide) (by decide) (by decide) (by decide) (by decide) (by kernel_rfl) (by kernel_rfl) (by kernel_rfl) (by kernel_rfl)).mono ?_; rintro e W' ⟨rfl, vl', hp, ho, hn, hF⟩; have hg1 := own_neG h1 (by decide) hP; have hg3 := own_neG h3 (by decide) hP; exact ⟨rfl, ⟨hb, vl', vs, hp, cs, v1, own_fr h1 hF (fun b hb e => by rcases e with e | e; (· exact hg1 (by rw [hb, e])); (· simp [Value.ownBlock] at e)), h2, own_fr h3 hF (fun b hb e => by rcases e with e | e; (· exact hg3 (by rw [hb, e])); (· simp [Value.ownBlock] at e)), ho, fun b hb hb1 => by have hx := hn b hb; rcases hx with hx | hx; (· simp [Value.ownBlock] at hx); (· have := (h1.lt b hb1).2; omega)⟩, below_fr hF (by omega) (fun i e => by rcases e with e | e; (· omega); (· simp [Value.ownBlock] at e))⟩
theorem st5 {B g : Nat} {W : World} (h : St B g 5 16 W) :
    Calls Try.prog 61 #[.pointer (some ⟨g, 0, none⟩)] W fun e W' => e = .returned (.bool true) ∧ St B g 6 17 W' ∧ Below B W W' := by
  obtain ⟨hb, vl, vs, hP, cs, v1, h1, h2, h3, h4, h5⟩ := h; have hgl : g < W.heap.size := (Array.getElem?_eq_some_iff.1 hP).1; obtain ⟨bs, c, rfl⟩ := own_form1 h3 (by decide); obtain ⟨A, c2, rfl⟩ := own_form h4; refine (item_done.calls g B s0 16 (-1) A 1 c2 bs c 1 [v1, .int .i64 4, .string ⟨#[]⟩, vnil] vnil 0 [] ⟨#[70]⟩ none 0 0 W hP h3 rfl (World.ownsRow_nil _ _ _ _) hb (by decide) (by decide) (by decide) (by decide) (by decide)).mono ?_; rintro e W' ⟨rfl, vl', hp, ho, hl, hn, hF⟩; have hg1 := own_neG h1 (by decide) hP; have hg4 := own_neG h4 (by decide) hP; exact ⟨rfl, ⟨hb, vl', _, hp, cs, v1, _, own_fr h1 hF (fun b hb e => by rcases e with e | e; (· exact hg1 (by rw [hb, e])); (· simp [Value.ownBlock] at e)), h2, ho, own_fr h4 hF (fun b hb e => by rcases e with e | e; (· exact hg4 (by rw [hb, e])); (· simp [Value.ownBlock] at e)), hl, h5, fun b hb hb1 => by have hx := hn b hb; rcases hx with hx | hx; (· simp [Value.ownBlock] at hx); (· have := (h1.lt b hb1).2; omega)⟩, below_fr hF (by omega) (fun i e => by rcases e with e | e; (· omega); (· simp [Value.ownBlock] at e))⟩
theorem st6 {B g : Nat} {W : World} (h : St B g 6 17 W) :
    Calls Try.prog 61 #[.pointer (some ⟨g, 0, none⟩)] W fun e W' => e = .returned (.bool true) ∧ St B g 7 18 W' ∧ Below B W W' := by
  obtain ⟨hb, vl, vs, hP, cs, v1, v2, h1, h2, h3, h4, h5, h6, h7⟩ := h; have hgl : g < W.heap.size := (Array.getElem?_eq_some_iff.1 hP).1; obtain ⟨bs, c, rfl⟩ := own_form1 h3 (by decide); obtain ⟨A, c2, rfl⟩ := own_form h5; refine (item_shut.calls g B s0 17 (-1) A 1 c2 bs c 0 [] v1 3 (cs ++ cS) ⟨#[]⟩ none 0 0 W hP h3 rfl h1 hb (by decide) (by decide) (by decide) (by decide) (by decide)).mono ?_; rintro e W' ⟨rfl, vl', hp, ho, hl, hn, hF⟩; have hg4 := own_neG h4 (by decide) hP; have hg5 := own_neG h5 (by decide) hP; exact ⟨rfl, ⟨hb, vl', _, hp, cs, v2, _, ⟨_, _, rfl⟩, hl, h2, own_fr h4 hF (fun b hb e => by rcases e with e | e; (· exact hg4 (by rw [hb, e])); (· exact h6 b hb e.symm)), own_fr h5 hF (fun b hb e => by rcases e with e | e; (· exact hg5 (by rw [hb, e])); (· exact h7 b hb e.symm))⟩, below_fr hF (by omega) (fun i e => by rcases e with e | e; (· omega); (· exact (h1.lt i e.symm).1))⟩
end Go.Proofs.Ytdbjjaodkapikaa.TE
namespace Go.Proofs.Ytdbjjaodkapikaa.TE
open Go.RowKit Go.Shelf Go.Proofs.YtdbjjaodkapikaaW.PrintWords Go.Proofs.YtdbjjaodkapikaaW.PrintLast Go.Proofs.YtdbjjaodkapikaaW.PrintMore Go.Proofs.Ytdbjjaodkapikaa.Evs
set_option linter.unusedVariables false
set_option linter.unusedSimpArgs false
def l0 : List Tm := [⟨1, ⟨#[97]⟩, []⟩, ⟨1, ⟨#[98]⟩, []⟩, ⟨5, ⟨#[49]⟩, []⟩, ⟨4, ⟨#[]⟩, [⟨8, ⟨#[70]⟩, [⟨7, ⟨#[120]⟩, []⟩]⟩]⟩]
def posA : Nat → Nat
  | 0 => 0
  | 1 => 4
  | 2 => 8
  | 3 => 10
  | 4 => 12
  | 5 => 16
  | 6 => 17
  | _ => 18
def posB : Nat → Nat
  | 0 => 0
  | 1 => 5
  | 2 => 9
  | 3 => 10
  | 4 => 13
  | 5 => 16
  | 6 => 17
  | _ => 18
theorem posB_eq : ∀ k, k ≤ 7 → endF 8 s0 (posA k) = posB k := by decide
theorem posA_le : ∀ k, posA k ≤ 18 := by
  intro k; unfold posA; split <;> omega
theorem posB_lt : ∀ k, k < 7 → posB k < 18 := by decide
theorem st_item {B g k : Nat} {W : World} (hk : k < 7) (h : St B g k (posB k) W) :
    Calls Try.prog 61 #[.pointer (some ⟨g, 0, none⟩)] W fun e W' => e = .returned (.bool true) ∧ St B g (k + 1) (posA (k + 1)) W' ∧ Below B W W' := by
  match k, hk, h with
  | 0, _, h => exact st0 h
  | 1, _, h => exact st1 h
  | 2, _, h => exact st2 h
  | 3, _, h => exact st3 h
  | 4, _, h => exact st4 h
  | 5, _, h => exact st5 h
  | 6, _, h => exact st6 h
theorem reps_cons {α : Type} {R : α → List Value → Prop} {x : α} {r : List α} {c cs : List Value} (hx : R x c) (hc : c.length = 3) (h : Reps R 3 r cs) : Reps R 3 (x :: r) (c ++ cs) := by
  refine ⟨by rw [List.length_append, hc, h.1, List.length_cons]; omega, fun j p hp => ?_⟩
  cases j with
  | zero =>
    obtain rfl : x = p := by simpa using hp
    simp only [Nat.zero_mul, List.drop_zero]; rw [List.take_append_of_le_length (by omega), List.take_of_length_le (by omega)]; exact hx
  | succ j =>
    have := h.2 j p (by simpa using hp); rw [show (j + 1) * 3 = c.length + j * 3 by omega, List.drop_length_add_append]; exact this
theorem flat_reps {W : World} {r : List Tm} {cs : List Value} (h : Flat r cs) : ∀ {r2 : List Tm} {cs2 : List Value}, Reps (k42.K W) 3 r2 cs2 → Reps (k42.K W) 3 (r ++ r2) (cs ++ cs2) := by
  induction h with
  | nil => intro r2 cs2 h2; exact h2
  | cons k t A c r cs h ih =>
    intro r2 cs2 h2; exact reps_cons (c := [.int .i64 k, .string t, .slice A 0 c]) (k42_mk W ⟨k, t, []⟩ (Nat.zero_le _) ⟨rfl, Nat.zero_le _, fun hp => absurd hp (Nat.lt_irrefl _)⟩) rfl (ih h2)
theorem l0_reads {B : Nat} {vl vs : Value} {W : World} (h : Sx B 7 vl vs W) : ∃ b c, vl = .slice (some ⟨b, 0, none⟩) 4 c ∧ 4 ≤ c ∧ Kd.C k42 W (some ⟨b, 0, none⟩) 4 l0 := by
  obtain ⟨cs, v2, v3, _, h1, h2, h3, h4⟩ := h; have r3 : Reps (k42.K W) 3 [(⟨7, ⟨#[120]⟩, []⟩ : Tm)] cE := reps_cons (k42_mk W ⟨7, ⟨#[120]⟩, []⟩ (Nat.le_refl 0) (Kd.C_nil _ _)) rfl (Reps.none _ _); obtain ⟨A2, c2, rfl, hr2⟩ := own_reads_row h3 r3 rfl; have r4 : Reps (k42.K W) 3 [(⟨8, ⟨#[70]⟩, [⟨7, ⟨#[120]⟩, []⟩]⟩ : Tm)] [.int .i64 8, .string ⟨#[70]⟩, .slice A2 1 c2] := reps_cons (k42_mk W ⟨8, ⟨#[70]⟩, [⟨7, ⟨#[120]⟩, []⟩]⟩ (own_le h3) hr2) rfl (Reps.none _ _); obtain ⟨A3, c3, rfl, hr3⟩ := own_reads_row h4 r4 rfl
  have r1 : Reps (k42.K W) 3 l0 (cs ++ cS ++ [.int .i64 4, .string ⟨#[]⟩, .slice A3 1 c3]) := by
    rw [List.append_assoc]; refine flat_reps h2 (r2 := [⟨5, ⟨#[49]⟩, []⟩, ⟨4, ⟨#[]⟩, [⟨8, ⟨#[70]⟩, [⟨7, ⟨#[120]⟩, []⟩]⟩]⟩]) ?_; refine reps_cons (c := cS) (k42_mk W ⟨5, ⟨#[49]⟩, []⟩ (Nat.le_refl 0) (Kd.C_nil _ _)) rfl ?_; exact reps_cons (k42_mk W ⟨4, ⟨#[]⟩, [⟨8, ⟨#[70]⟩, [⟨7, ⟨#[120]⟩, []⟩]⟩]⟩ (own_le h4) hr3) rfl (Reps.none _ _)
  obtain ⟨b, c1, rfl⟩ := own_form1 h1 (by decide); obtain ⟨A', c', he, hr1⟩ := own_reads_row h1 r1 rfl
  injection he with e1 _ _
  exact ⟨b, c1, rfl, own_le h1, by rw [e1]; exact hr1⟩
theorem res0 : term_Result.f 100 l0 = some 0 := by kernel_rfl
set_option maxRecDepth 100000 in
set_option maxHeartbeats 4000000 in
theorem Parse0.calls (W : World) : Calls Try.prog 14 #[.string s0] W fun e W' => ∃ b c, e = .returned (.tuple #[.slice (some ⟨b, 0, none⟩) 4 c, .int .i64 0, .int .i64 0]) ∧ 4 ≤ c ∧ Kd.C k42 W' (some ⟨b, 0, none⟩) 4 l0 ∧ Below W.heap.size W W' := by
  have hs : s0.size = 18 := by decide
  have e1 : decide ((40000 : Int) < (s0.size : Int)) = false := by rw [hs]; decide
  obtain ⟨s, hss⟩ : ∃ s, s = s0 := ⟨_, rfl⟩; rw [← hss] at hs e1 ⊢; have HSS := Aside0.mk hss
  have hs18 : (s.size : Int) = 18 := by omega
  clear hss
  go_enter Try.func14, Try.ntmps14
  go_wp2_with fail
  go_step3
  go_wp2_with fail
  go_step3
  go_wp2_with fail
  have hn0 := World.alloc_heap_new W (.cells #[.string s, .int .i64 0, .int .i64 (-1), .slice none 0 0, .slice none 0 0] 72); have hb0 : Below W.heap.size W (W.alloc (.cells #[.string s, .int .i64 0, .int .i64 (-1), .slice none 0 0, .slice none 0 0] 72)) := (Below.refl _ _).alloc (Nat.le_refl _) _; obtain ⟨W0, hW0⟩ : ∃ W0, W.alloc (.cells #[.string s, .int .i64 0, .int .i64 (-1), .slice none 0 0, .slice none 0 0] 72) = W0 := ⟨_, rfl⟩; rw [hW0] at hn0 hb0 ⊢; obtain ⟨g, hg⟩ : ∃ g, g = W.heap.size := ⟨_, rfl⟩; have HG := Aside0.mk hg; rw [← hg] at hn0 hb0 ⊢; rw [HSS.out] at hn0; have HN0 := Aside0.mk (show St g g 0 0 W0 from ⟨Nat.le_refl _, vnil, vnil, hn0, rfl, rfl⟩); have HB0 := Aside0.mk hb0; clear hn0 hb0 hW0 hg
  go_loopg [] 8 (fun gk wr_ => ∃ k : Nat, k ≤ 7 ∧ 7 - k < gk ∧ Aside0 (St g g k (posA k) wr_) ∧ Aside0 (Below g W wr_))
  case atStart => exact ⟨0, by omega, by omega, HN0, HB0⟩
  case round =>
    obtain ⟨k, hk7, hgk, HST, HB⟩ := hrel; obtain ⟨g', rfl⟩ : ∃ g', gk = g' + 1 := ⟨gk - 1, by omega⟩; have hpb := posB_eq k hk7; have HPB := Aside0.mk hpb; clear hpb
    go_wp2_with fail
    refine (longest_st HST.out (posA_le k)).mono ?_; rintro e w1 ⟨⟨v, rfl⟩, hst, hb1⟩; rw [HPB.out] at hst; have HST1 := Aside0.mk hst; have HB1 := Aside0.mk (HB.out.trans hb1); obtain ⟨hgg, vl, vs, hP, hS⟩ := hst; obtain ⟨c0, c1, c2, c3, c4⟩ := hP.cells; have HSX := Aside0.mk hS; clear hb1 hP hS hgg
    by_cases hk : k = 7
    · subst hk; have e2 : (((posB 7 : Nat) : Int) == 18) = true := rfl; have e3 : ((posB 7 : Nat) : Int) = 18 := rfl; rw [e3] at c1; obtain ⟨b, c, rfl, h4, hC⟩ := l0_reads HSX.out; obtain ⟨As, cs, rfl⟩ := (show ∃ A c, vs = .slice A 0 c from HSX.out.choose_spec.choose_spec.choose_spec.1); have H4 := Aside0.mk h4; have HC := Aside0.mk hC; clear h4 hC
      go_wp2_with fail
      refine (term_Result.calls 100 (some ⟨b, 0, none⟩) c l0 0 w1 HC.out H4.out res0).mono ?_; rintro e w2 ⟨rfl, hb2⟩; have c3' := pw_cell_below hb2 c3; have HC2 := Aside0.mk (Kd.C_below HC.out hb2); have HB2 := Aside0.mk (q14 (show Below W.heap.size W w1 by rw [← HG.out]; exact HB1.out) hb2); clear hb2
      go_wp2_with fail
      (try rw [Exit.noGoto_ret])
      go_ret3
      exact ⟨b, c, rfl, H4.out, HC2.out, HB2.out⟩
    · have hk' : k < 7 := by omega
      have hq := posB_lt k hk'; obtain ⟨q, hqd⟩ : ∃ q, q = posB k := ⟨_, rfl⟩; rw [← hqd] at hq c1; have hqd' := hqd.symm
      have e2 : ((q : Int) == 18) = false := by simp; omega
      clear hqd hqd' hq
      go_wp2_with fail
      refine (st_item hk' HST1.out).mono ?_; rintro e w2 ⟨rfl, hst2, hb2⟩; have HST2 := Aside0.mk hst2; have HB2 := Aside0.mk (HB1.out.trans hb2); clear hst2 hb2
      go_wp2_with fail
      go_roundg g'
      case measure => omega
      case rel => exact ⟨k + 1, by omega, by omega, HST2, HB2⟩
end Go.Proofs.Ytdbjjaodkapikaa.TE
namespace Go.Proofs.Ytdbjjaodkapikaa.TE
open Go.RowKit Go.Shelf Go.Proofs.YtdbjjaodkapikaaW.PrintWords Go.Proofs.YtdbjjaodkapikaaW.PrintLast Go.Proofs.YtdbjjaodkapikaaW.PrintMore Go.Proofs.Ytdbjjaodkapikaa.Evs
set_option linter.unusedVariables false
set_option linter.unusedSimpArgs false
theorem txl0 : txl none l0 = [39, 97, 98, 39, 32, 115, 46, 49, 32, 40, 60, 70, 32, 101, 46, 120, 62, 41] := by kernel_rfl
theorem text0 : textS 0 l0 = ⟨#[39, 97, 98, 39, 32, 115, 46, 49, 32, 40, 60, 70, 32, 101, 46, 120, 62, 41]⟩ := by unfold textS; rw [txl0]; rfl
theorem texte0 : textE 0 l0 = 0 := by unfold textE; rw [txl0]; rfl
theorem flat0 : flat l0 = [⟨1, ⟨#[97]⟩, []⟩, ⟨1, ⟨#[98]⟩, []⟩, ⟨5, ⟨#[49]⟩, []⟩, ⟨4, ⟨#[]⟩, [⟨8, ⟨#[70]⟩, [⟨7, ⟨#[120]⟩, []⟩]⟩]⟩, ⟨8, ⟨#[70]⟩, [⟨7, ⟨#[120]⟩, []⟩]⟩, ⟨7, ⟨#[120]⟩, []⟩] := by kernel_rfl
theorem wok0 : Wok l0 := by unfold Wok; rw [flat0]; decide
theorem name0 : nameB 5 ⟨#[49]⟩ = ⟨#[115, 46, 49]⟩ := by kernel_rfl
set_option maxRecDepth 100000 in
set_option maxHeartbeats 4000000 in
theorem awake.calls (W : World) : Calls Try.prog 11 #[] W fun e W' => e = .returned (.bool true) ∧ Below W.heap.size W W' := by
  go_enter Try.func11, Try.ntmps11
  go_wp2_with fail
  refine (Parse0.calls W).mono ?_; rintro e w1 ⟨b, c, rfl, h4, hC, hb1⟩; have H4 := Aside0.mk h4; have HC := Aside0.mk hC; have HB1 := Aside0.mk hb1; clear h4 hC hb1
  go_wp2_with fail
  have ht := Text.calls 100 (some ⟨b, 0, none⟩) c l0 0 w1 HC.out H4.out res0 (fun _ => ⟨wok0, by rw [txl0]; decide⟩); rw [text0, texte0] at ht; refine ht.mono ?_; clear ht; rintro e w2 ⟨rfl, hb2⟩; have hC2 := Kd.C_below HC.out hb2; have HB2 := Aside0.mk (q14 HB1.out hb2); obtain ⟨ad, A2, c2, hae, x0, x1, x2, l2, g2⟩ := at_T42 hC2 2 (by decide) (by decide); have r2 : rd_T42 l0 2 = ⟨5, ⟨#[49]⟩, []⟩ := rfl; rw [r2] at x0 x1 x2 g2 l2
  obtain rfl : (⟨b, 0, none⟩ : Addr) = ad := by injection hae
  have y0 : w2.cell? ⟨b, 6, none⟩ = some (.int .i64 5) := x0; have y1 : w2.cell? ⟨b, 7, none⟩ = some (.string ⟨#[49]⟩) := x1; have y2 : w2.cell? ⟨b, 8, none⟩ = some (.slice A2 0 c2) := x2; have HG2 := Aside0.mk g2; have HL2 := Aside0.mk l2; clear hb2 hC2 g2 l2 x0 x1 x2 r2 hae
  go_wp2_with fail
  have hn := Name.calls 5 ⟨#[49]⟩ A2 c2 [] w2 HG2.out HL2.out (by decide); rw [name0] at hn; refine hn.mono ?_; clear hn; rintro e w3 ⟨rfl, hb3⟩; have HB3 := Aside0.mk (q14 HB2.out hb3); clear hb3
  go_wp2_with fail
  go_ret; exact ⟨rfl, HB3.out⟩
end Go.Proofs.Ytdbjjaodkapikaa.TE
end
section
namespace Go.Proofs.Ytdbjjaodkapikaa.TE
open Go.RowKit Go.Shelf Go.Proofs.YtdbjjaodkapikaaW.PrintWords Go.Proofs.YtdbjjaodkapikaaW.PrintLast Go.Proofs.YtdbjjaodkapikaaW.PrintMore Go.Proofs.Ytdbjjaodkapikaa.Evs
set_option linter.unusedVariables false
set_option linter.unusedSimpArgs false
theorem fine_le {m n : Int} (h : m ≤ n) {x : Tm} (hx : fineS m x = true) : fineS n x = true := by
  unfold fineS at *; simp only [Bool.and_eq_true, Bool.not_eq_true', decide_eq_false_iff_not] at *; exact ⟨by omega, hx.2⟩
theorem check_le {m n : Int} (h : m ≤ n) {l : List Tm} (hl : checkS m l = 0) : checkS n l = 0 := by
  unfold checkS at *
  split at hl
  · simp at hl
  · split at hl
    · simp at hl
    · split at hl
      · rename_i h1 h2 h3
        rw [if_neg h1, if_neg h2, if_pos]; rw [List.all_eq_true] at *
        exact fun x hx => fine_le h (h3 x hx)
      · simp at hl
theorem rows1 {w : World} {A : Option Addr} {c : Nat} {l : List Tm} (hC : Kd.C k42 w A l.length l) (hc : l.length ≤ c) :
    Kd.C (Kd.slice 42 k42) (w.alloc (.cells #[.slice A l.length c] 22)) (some ⟨w.heap.size, 0, none⟩) 1 [l] := by
  refine ⟨rfl, by decide, fun _ => ⟨_, rfl, fun j p hp => ?_⟩⟩
  have hj : j = 0 := by
    rcases Nat.eq_zero_or_pos j with h | h
    · exact h
    · rw [List.getElem?_eq_none (by simp; omega)] at hp; simp at hp
  subst hj
  obtain rfl : l = p := by simpa using hp
  refine ⟨[.slice A l.length c], rfl, ⟨A, c, rfl, hc, Kd.C_below hC ((Below.refl _ _).alloc (Nat.le_refl _) _)⟩, fun i u hu => ?_⟩; rw [add_plain]; refine (q9 (World.alloc_heap_new w _) _).trans ?_
  match i, hu with
  | 0, hu => exact hu
set_option maxRecDepth 100000 in
set_option maxHeartbeats 4000000 in
theorem TermErrors.calls (A : Option Addr) (c : Nat) (l : List Tm) (w : World) (hC : Kd.C k42 w A l.length l) (hc : l.length ≤ c) (ok : ok42s l) (hb : bk42s l ≤ 1048576) :
    Calls Try.prog 4 #[.slice A l.length c] w fun e w' => e = .returned (.bool true) ∧ Below w.heap.size w w' := by
  have hb' : bk42s l ≤ 1099511627776 := by omega
  obtain ⟨k1, hk1⟩ := (size_ev hb').get; obtain ⟨k2, hk2⟩ := (rsize_ev _ l (Nat.le_refl _) hb').get; obtain ⟨k3, hk3⟩ := (show Evt (fun k => term_Value.f k l) (checkS 4 l) from Evt.bind (check_ev hb' 4) (Evt.const _)).get; obtain ⟨k4, hk4⟩ := (show Evt (fun k => term_Pattern.f k l) (checkS 7 l) from Evt.bind (check_ev hb' 7) (Evt.const _)).get; obtain ⟨k5, hk5⟩ := (Result_ev hb').get; obtain ⟨k6, hk6⟩ := (show Evt (fun k => chiasmusref01_Value.f k l) (checkS 4 l) from Evt.bind (wrong_ev hb' 4) (Evt.const _)).get; obtain ⟨k7, hk7⟩ := (show Evt (fun k => chiasmusref01_Pattern.f k l) (checkS 7 l) from Evt.bind (wrong_ev hb' 7) (Evt.const _)).get; obtain ⟨k8, hk8⟩ := (rResult_ev hb').get; have h47 : checkS 4 l = 0 → checkS 7 l = 0 := check_le (by decide); have h78 : checkS 7 l = 0 → checkS 8 l = 0 := check_le (by decide); have H47 := Aside0.mk h47; have H78 := Aside0.mk h78; obtain ⟨N, hN⟩ : ∃ N : Int, N = ((flat l).length : Int) := ⟨_, rfl⟩; obtain ⟨D, hD⟩ : ∃ D : Int, D = dpL 0 l := ⟨_, rfl⟩; obtain ⟨v, hv⟩ : ∃ v : Int, v = checkS 4 l := ⟨_, rfl⟩; obtain ⟨p, hp⟩ : ∃ p : Int, p = checkS 7 l := ⟨_, rfl⟩; obtain ⟨r, hr⟩ : ∃ r : Int, r = checkS 8 l := ⟨_, rfl⟩; rw [← hN, ← hD] at hk1 hk2; rw [← hv] at hk3 hk6; rw [← hp] at hk4 hk7; rw [← hr] at hk5 hk8; have hcall0 := Small.calls 5000 (some ⟨w.heap.size, 0, none⟩) 1 1 [l] _ (rows1 hC hc) rfl (Nat.le_refl _); have hbl : Below w.heap.size w (w.alloc (.cells #[.slice A l.length c] 22)) := (Below.refl _ _).alloc (Nat.le_refl _) _; obtain ⟨W0, hW0⟩ : ∃ W0, w.alloc (.cells #[.slice A l.length c] 22) = W0 := ⟨_, rfl⟩; have HW0 := Aside0.mk hW0; rw [hW0] at hcall0 hbl; obtain ⟨b, hbb⟩ : ∃ b, b = (cntAll 5000 [l]).1 := ⟨_, rfl⟩; rw [← hbb] at hcall0; have HC := Aside0.mk hC; have HCC := Aside0.mk hc; have HBL := Aside0.mk hbl; have HCALL0 := Aside0.mk hcall0; have HK1 := Aside0.mk hk1; have HK2 := Aside0.mk hk2; have HK3 := Aside0.mk hk3; have HK4 := Aside0.mk hk4; have HK5 := Aside0.mk hk5; have HK6 := Aside0.mk hk6; have HK7 := Aside0.mk hk7; have HK8 := Aside0.mk hk8
  have h47' : v = 0 → p = 0 := by rw [hv, hp]; exact h47
  have h78' : p = 0 → r = 0 := by rw [hp, hr]; exact h78
  have H47' := Aside0.mk h47'; have H78' := Aside0.mk h78'; clear hC hc ok hb hb' hk1 hk2 hk3 hk4 hk5 hk6 hk7 hk8 h47 h78 H47 H78 hN hD hv hp hr hcall0 hbl hW0 hbb h47' h78'
  go_enter Try.func4, Try.ntmps4
  go_wp2_with fail
  rw [HW0.out]; refine HCALL0.out.mono ?_; rintro e w1 ⟨rfl, hb1⟩; have HB1 := Aside0.mk (q14 HBL.out hb1); clear hb1
  cases b with
  | false =>
    go_wp2_with fail
    refine (awake.calls w1).mono ?_; rintro e w2 ⟨rfl, hb2⟩; have HB2 := Aside0.mk (q14 HB1.out hb2); clear hb2
    go_wp2_with fail
    go_ret; exact ⟨rfl, HB2.out⟩
  | true =>
    go_wp2_with fail
    refine (term_Size.calls k1 A c l N D w1 (Kd.C_below HC.out HB1.out) HCC.out HK1.out).mono ?_; rintro e w2 ⟨rfl, hb2⟩; have HB2 := Aside0.mk (q14 HB1.out hb2); clear hb2
    go_wp2_with fail
    refine (chiasmusref01_Size.calls k2 A c l N D w2 (Kd.C_below HC.out HB2.out) HCC.out HK2.out).mono ?_; rintro e w3 ⟨rfl, hb3⟩; have HB3 := Aside0.mk (q14 HB2.out hb3); clear hb3
    go_wp2_with fail
    refine (term_Value.calls k3 A c l _ w3 (Kd.C_below HC.out HB3.out) HCC.out HK3.out).mono ?_; rintro e w4 ⟨rfl, hb4⟩; have HB4 := Aside0.mk (q14 HB3.out hb4); clear hb4
    go_wp2_with fail
    refine (term_Pattern.calls k4 A c l _ w4 (Kd.C_below HC.out HB4.out) HCC.out HK4.out).mono ?_; rintro e w5 ⟨rfl, hb5⟩; have HB5 := Aside0.mk (q14 HB4.out hb5); clear hb5
    go_wp2_with fail
    refine (term_Result.calls k5 A c l _ w5 (Kd.C_below HC.out HB5.out) HCC.out HK5.out).mono ?_; rintro e w6 ⟨rfl, hb6⟩; have HB6 := Aside0.mk (q14 HB5.out hb6); clear hb6
    have evv : ((v : Int) == v) = true := by simp
    have epp : ((p : Int) == p) = true := by simp
    have err : ((r : Int) == r) = true := by simp
    by_cases hv0 : v = 0
    · have hp0 := H47'.out hv0; have hr0 := H78'.out hp0; subst hv0; subst hp0; subst hr0
      go_wp2_with fail
      refine (chiasmusref01_Value.calls k6 A c l _ w6 (Kd.C_below HC.out HB6.out) HCC.out HK6.out).mono ?_; rintro e w7 ⟨rfl, hb7⟩; have HB7 := Aside0.mk (q14 HB6.out hb7); clear hb7
      go_wp2_with fail
      refine (chiasmusref01_Pattern.calls k7 A c l _ w7 (Kd.C_below HC.out HB7.out) HCC.out HK7.out).mono ?_; rintro e w8 ⟨rfl, hb8⟩; have HB8 := Aside0.mk (q14 HB7.out hb8); clear hb8
      go_wp2_with fail
      refine (chiasmusref01_Result.calls k8 A c l _ w8 (Kd.C_below HC.out HB8.out) HCC.out HK8.out).mono ?_; rintro e w9 ⟨rfl, hb9⟩; have HB9 := Aside0.mk (q14 HB8.out hb9); clear hb9
      go_wp2_with fail
      refine (awake.calls w9).mono ?_; rintro e w10 ⟨rfl, hb10⟩; have HB10 := Aside0.mk (q14 HB9.out hb10); clear hb10
      go_wp2_with fail
      go_ret; exact ⟨rfl, HB10.out⟩
    · have ev : ((v : Int) == 0) = false := by simp; exact hv0
      by_cases hp0 : p = 0
      · have hr0 := H78'.out hp0; subst hp0; subst hr0; clear hv0
        go_wp2_with fail
        refine (chiasmusref01_Value.calls k6 A c l _ w6 (Kd.C_below HC.out HB6.out) HCC.out HK6.out).mono ?_; rintro e w7 ⟨rfl, hb7⟩; have HB7 := Aside0.mk (q14 HB6.out hb7); clear hb7
        go_wp2_with fail
        refine (chiasmusref01_Pattern.calls k7 A c l _ w7 (Kd.C_below HC.out HB7.out) HCC.out HK7.out).mono ?_; rintro e w8 ⟨rfl, hb8⟩; have HB8 := Aside0.mk (q14 HB7.out hb8); clear hb8
        go_wp2_with fail
        refine (chiasmusref01_Result.calls k8 A c l _ w8 (Kd.C_below HC.out HB8.out) HCC.out HK8.out).mono ?_; rintro e w9 ⟨rfl, hb9⟩; have HB9 := Aside0.mk (q14 HB8.out hb9); clear hb9
        go_wp2_with fail
        refine (awake.calls w9).mono ?_; rintro e w10 ⟨rfl, hb10⟩; have HB10 := Aside0.mk (q14 HB9.out hb10); clear hb10
        go_wp2_with fail
        go_ret; exact ⟨rfl, HB10.out⟩
      · have ep : ((p : Int) == 0) = false := by simp; exact hp0
        clear hv0 hp0
        go_wp2_with fail
        refine (chiasmusref01_Value.calls k6 A c l _ w6 (Kd.C_below HC.out HB6.out) HCC.out HK6.out).mono ?_; rintro e w7 ⟨rfl, hb7⟩; have HB7 := Aside0.mk (q14 HB6.out hb7); clear hb7
        go_wp2_with fail
        refine (chiasmusref01_Pattern.calls k7 A c l _ w7 (Kd.C_below HC.out HB7.out) HCC.out HK7.out).mono ?_; rintro e w8 ⟨rfl, hb8⟩; have HB8 := Aside0.mk (q14 HB7.out hb8); clear hb8
        go_wp2_with fail
        refine (chiasmusref01_Result.calls k8 A c l _ w8 (Kd.C_below HC.out HB8.out) HCC.out HK8.out).mono ?_; rintro e w9 ⟨rfl, hb9⟩; have HB9 := Aside0.mk (q14 HB8.out hb9); clear hb9
        go_wp2_with fail
        refine (awake.calls w9).mono ?_; rintro e w10 ⟨rfl, hb10⟩; have HB10 := Aside0.mk (q14 HB9.out hb10); clear hb10
        go_wp2_with fail
        go_ret; exact ⟨rfl, HB10.out⟩
end Go.Proofs.Ytdbjjaodkapikaa.TE
end
