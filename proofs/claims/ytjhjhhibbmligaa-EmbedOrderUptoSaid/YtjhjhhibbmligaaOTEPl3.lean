/- The reference's At. -/
import Derived.Test.YtjhjhhibbmligaaOTELi
import Derived.Test.YtjhjhhibbmligaaOTENd
import Derived.Test.YtjhjhhibbmligaaOTEAllD
import Derived.Test.YtjhjhhibbmligaaOTEPa
import Derived.Test.YtjhjhhibbmligaaOTEx7
section
namespace Go.Proofs.Ytjhjhhibbmligaa.TE
open Go.RowKit Go.Shelf Go.Proofs.YtjhjhhibbmligaaW.PrintWords Go.Proofs.YtjhjhhibbmligaaW.PrintLast Go.Proofs.YtjhjhhibbmligaaW.PrintMore Go.Proofs.Ytjhjhhibbmligaa.Evs
set_option linter.unusedVariables false
set_option linter.unusedSimpArgs false
structure Pb (W w : World) (va vb : Value) (g M : Nat) (ok : Nat → Prop) (a b : List Tm) : Prop where
  ex : ∀ NA NB T U, NA ≤ 1048576 → NB ≤ 1048576 → Ex w g M NA NB T U ok
  pa : PL w ok va a 0 []
  pb : PL w ok vb b 0 []
  kn : ∀ NA NB T U, Kn M NA NB T U w
  be : Below W.heap.size W w
  hM : W.heap.size ≤ M
set_option maxRecDepth 100000 in
set_option maxHeartbeats 4000000 in
theorem problem.calls (A1 A2 : Option Addr) (c1 c2 : Nat) (a b : List Tm) (W : World) (ha : Kd.C k42 W A1 a.length a) (hb : Kd.C k42 W A2 b.length b) (hc1 : a.length ≤ c1) (hc2 : b.length ≤ c2) (hla : (flat a).length ≤ 500000) (hlb : (flat b).length ≤ 500000) :
    Calls Try.prog 89 #[.slice A1 a.length c1, .slice A2 b.length c2] W fun e W' => ∃ va vb g M ok, e = .returned (.tuple #[va, vb, .pointer (some ⟨g, 0, none⟩)]) ∧ Pb W W' va vb g M ok a b := by
  have hmm := @run_makeMap Try.prog; obtain ⟨C0, hC0⟩ : ∃ C : Obj, C = .cells #[.int .i64 0] 3 := ⟨_, rfl⟩; have hb1 : Below W.heap.size W ((W.alloc C0).alloc C0) := ((Below.refl _ W).alloc (Nat.le_refl _) _).alloc (by simp) _; have hk1 : ((W.alloc C0).alloc C0).heap[W.heap.size]? = some C0 := (Below.heap_alloc _ _ _ (by simp)).trans (World.alloc_heap_new W _)
  have hk2 : ((W.alloc C0).alloc C0).heap[W.heap.size + 1]? = some C0 := by have := World.alloc_heap_new (W.alloc C0) C0; rwa [World.size_alloc] at this
  have hz1 : ((W.alloc C0).alloc C0).heap.size = W.heap.size + 2 := by simp
  obtain ⟨W1, hW1⟩ : ∃ W1, W1 = (W.alloc C0).alloc C0 := ⟨_, rfl⟩; rw [← hW1] at hb1 hk1 hk2 hz1; rw [hC0] at hk1 hk2; have hcall := nodes.calls W (SizeOf.sizeOf a) A1 c1 a (.slice none 0 0) [] W.heap.size 0 W1 (Nat.le_refl _) ha hc1 hb1 (Nat.le_refl _) hk1 (World.ownsRow_nil _ _ _ _) (by simp; omega) (by simp [Value.ownBlock]); have HCALL := Aside0.mk hcall; have HWW : Aside0 (W1 = (W.alloc (.cells #[.int .i64 0] 3)).alloc (.cells #[.int .i64 0] 3)) := ⟨by rw [hW1, hC0]⟩; have HHB := Aside0.mk hb; have HB1 := Aside0.mk hb1; have HK2 := Aside0.mk hk2; have HZ1 := Aside0.mk hz1; clear hcall hW1 ha hb hb1 hk1 hk2 hC0 hz1
  go_enter Try.func89, Try.ntmps89
  go_wp2_with fail
  rw [← HWW.out]; refine HCALL.out.mono ?_; rintro e w2 ⟨v1, vs1, rfl, ho1, hl1, _, hf1⟩; obtain ⟨B1, d1, rfl⟩ := own_formN ho1; have hz1 := HZ1.out; have hb2 : Below W.heap.size W w2 := fr_below0 HB1.out hf1 (fun k e => by omega); have hm2 : w2.heap[W.heap.size + 1]? = some (.cells #[.int .i64 0] 3 (0, 0)) := (hf1.block _ (by omega) (by omega)).trans HK2.out; have hcall := nodes.calls W (SizeOf.sizeOf b) A2 c2 b (.slice none 0 0) [] (W.heap.size + 1) 0 w2 (Nat.le_refl _) HHB.out hc2 hb2 (by omega) hm2 (World.ownsRow_nil _ _ _ _) (by simp; omega) (by simp [Value.ownBlock]); have HCALL2 := Aside0.mk hcall; have HO1 := Aside0.mk ho1; have HL1 := Aside0.mk hl1; have HF1 := Aside0.mk hf1; have HB2 := Aside0.mk hb2; have HM2 := Aside0.mk hm2; clear hcall ho1 hl1 hf1 hb2 hm2 HCALL hz1
  go_wp2_with fail
  refine HCALL2.out.mono ?_; rintro e w5 ⟨v2, vs2, rfl, ho2, hl2, _, hf2⟩; obtain ⟨B2, d2, rfl⟩ := own_formN ho2; have HO2 := Aside0.mk ho2; have HL2 := Aside0.mk hl2; have HF2 := Aside0.mk hf2; clear ho2 hl2 hf2 HCALL2
  go_wp2_with fail
  have hz1 := HZ1.out; have hz2 := HF1.out.size; have hz5 := HF2.out.size; have hb5 : Below W.heap.size W w5 := fr_below0 HB2.out HF2.out (fun k e => by omega); obtain ⟨w7, hw7⟩ : ∃ w7, w7 = (w5.alloc (.map #[] 0)).alloc (.cells #[.map (some w5.heap.size)] 167) := ⟨_, rfl⟩
  have hb7 : Below w5.heap.size w5 w7 := by rw [hw7]; exact ((Below.refl _ w5).alloc (Nat.le_refl _) _).alloc (by simp) _
  have hm7 : w7.heap[w5.heap.size]? = some (.map #[] 0) := by rw [hw7]; exact (Below.heap_alloc _ _ _ (by simp)).trans (MapKept.heap_alloc w5 (.map #[] 0)).1
  have he7 : w7.heap[w5.heap.size + 1]? = some (.cells #[.map (some w5.heap.size)] 167 (0, 0)) := by
    rw [hw7]; have := World.alloc_heap_new (w5.alloc (.map #[] 0)) (.cells #[.map (some w5.heap.size)] 167)
    rwa [World.size_alloc] at this
  rw [← hw7]
  have hkn : ∀ NA NB T U, Kn w5.heap.size NA NB T U w7 := fun NA NB T U => by
    rw [hw7]; exact (Kn.made w5 NA NB T U).below ((Below.refl _ _).alloc (Nat.le_refl _) _)
  have ho1 := HO1.out; have ho2 := HO2.out
  have h17 : ∀ k, W1.heap.size ≤ k → k < w2.heap.size → w7.heap[k]? = w2.heap[k]? := fun k h1 h2 => (hb7.block k (by omega)).trans (HF2.out.block k h2 (by omega))
  have hPb : Pb W w7 (.slice B1 a.length d1) (.slice B2 b.length d2) (w5.heap.size + 1) w5.heap.size (fun k => W1.heap.size ≤ k ∧ k < w5.heap.size) a b := by
    refine ⟨fun NA NB T U hA hB => ⟨he7, blk_lt hm7, by omega, fun k hk => by omega, hA, hB⟩, ⟨vs1, ?_, ?_, ?_⟩, ⟨vs2, ?_, ?_, ?_⟩, hkn, hb5.trans (hb7.mono (by omega)), by omega⟩
    · exact own_same (own_base0 ho1) (fun k e => h17 k (own_ltA ho1 k e).2 (own_ltA ho1 k e).1)
    · exact fun k e => by have := own_ltA ho1 k e; omega
    · exact HL1.out.keep (fun k hk hl => h17 k hk.1 hl) (fun k hk hl => by have := hk.1; omega)
    · exact own_same (own_base0 ho2) (fun k e => hb7.block k (own_ltA ho2 k e).1)
    · exact fun k e => by have := own_ltA ho2 k e; omega
    · exact HL2.out.keep (fun k hk hl => hb7.block k hl) (fun k hk hl => by have := hk.1; omega)
  have HPB := Aside0.mk hPb; clear hPb hkn he7 hm7 hb7 hb5 hw7 h17 ho1 ho2 hz1 hz2 hz5
  go_wp2
  go_ret3
  exact ⟨_, _, _, _, _, rfl, HPB.out⟩
def tabT (a : List Tm) (i : Nat) : Tm := (flat a).getD i ⟨0, ⟨#[]⟩, []⟩
theorem tab_sub (a : List Tm) : SubL (tabT a) (flat a).length 0 a := fun q h => ⟨by omega, by unfold tabT; rw [Nat.zero_add, List.getD_eq_getElem?_getD, List.getElem?_eq_getElem h]; rfl⟩
theorem Pb.st {W w : World} {va vb : Value} {g M : Nat} {ok : Nat → Prop} {a b : List Tm} (h : Pb W w va vb g M ok a b) (NA NB : Nat) (T U : Nat → Tm) : St w M NA NB T U w := ⟨Fr.refl _ _, h.kn _ _ _ _⟩
theorem Pb.frame {W w w' : World} {va vb : Value} {g M : Nat} {ok : Nat → Prop} {a b : List Tm} (h : Pb W w va vb g M ok a b) (hf : Fr w w' (fun i => i = M)) : Below W.heap.size W w' := fr_below0 h.be hf (fun k e => by have := h.hM; omega)
set_option maxRecDepth 100000 in
set_option maxHeartbeats 4000000 in
theorem In.calls (A1 A2 : Option Addr) (c1 c2 : Nat) (a b : List Tm) (W : World) (ha : Kd.C k42 W A1 a.length a) (hb : Kd.C k42 W A2 b.length b) (hc1 : a.length ≤ c1) (hc2 : b.length ≤ c2) (hla : (flat a).length ≤ 500000) (hlb : (flat b).length ≤ 500000) :
    Calls Try.prog 25 #[.slice A1 a.length c1, .slice A2 b.length c2] W fun e W' => e = .returned (.bool (embL a b)) ∧ Below W.heap.size W W' := by
  have hcall := problem.calls A1 A2 c1 c2 a b W ha hb hc1 hc2 hla hlb; have HCALL := Aside0.mk hcall; clear hcall ha hb
  go_enter Try.func25, Try.ntmps25
  go_wp2_with fail
  refine HCALL.out.mono ?_; rintro e w2 ⟨va, vb, g, M, ok, rfl, hP⟩; have hcall := lists_all (hP.ex (flat a).length (flat b).length (tabT a) (tabT b) (by omega) (by omega)) (SizeOf.sizeOf a + SizeOf.sizeOf b) va vb a b 0 0 [] [] w2 hP.pa hP.pb (tab_sub a) (tab_sub b) (by omega) (hP.st _ _ _ _); have HP := Aside0.mk hP; have HC := Aside0.mk hcall; clear hcall hP HCALL
  go_wp2_with fail
  refine HC.out.mono ?_; rintro e w3 ⟨rfl, hs, hf⟩; have HF := Aside0.mk hf; clear hs hf HC
  go_wp2_with fail
  go_ret; exact ⟨rfl, HP.out.frame HF.out⟩
end Go.Proofs.Ytjhjhhibbmligaa.TE
end
section
namespace Go.Proofs.Ytjhjhhibbmligaa.TE
open Go.RowKit Go.Shelf Go.Proofs.YtjhjhhibbmligaaW.PrintWords Go.Proofs.YtjhjhhibbmligaaW.PrintLast Go.Proofs.YtjhjhhibbmligaaW.PrintMore Go.Proofs.Ytjhjhhibbmligaa.Evs
set_option linter.unusedVariables false
set_option linter.unusedSimpArgs false
theorem flat_ea : (flat ea).length ≤ 500000 := by unfold ea; simp [flat]
theorem flat_eb : (flat eb).length ≤ 500000 := by unfold eb; simp [flat]
theorem str_row (w : World) (vs : List ByteArray) (h : 0 < vs.length) (hm : vs.length ≤ 1048576) : Kd.C Kd.string (w.alloc (.cells (vs.map Value.string).toArray 9)) (some ⟨w.heap.size, 0, none⟩) vs.length vs := by
  refine ⟨rfl, by omega, fun _ => ⟨_, rfl, fun j p hp => ⟨[.string p], rfl, rfl, fun i u hu => ?_⟩⟩⟩; have hjl : j < vs.length := (List.getElem?_eq_some_iff.1 hp).1; rw [add_plain]; refine (q4 (World.alloc_heap_new w _) _).trans ?_
  match i, hu with
  | 0, hu =>
    obtain rfl : Value.string p = u := by simpa using hu
    have hs : Kd.string.sz = 1 := rfl; rw [hs, Nat.mul_one, Nat.add_zero]; simp [hp]
set_option maxRecDepth 100000 in
set_option maxHeartbeats 4000000 in
theorem awakeE.calls (W : World) : Calls Try.prog 16 #[] W fun e W' => e = .returned (.bool true) ∧ Below W.heap.size W W' := by
  have hp1 := fun W => Parse.calls ex1 W
  have hp2 := fun W => Parse.calls ex2 W
  rw [parse_ex1] at hp1; rw [parse_ex2] at hp2; have HP1 := Aside0.mk hp1; have HP2 := Aside0.mk hp2; clear hp1 hp2
  go_enter Try.func16, Try.ntmps16
  go_wp2_with fail
  refine (HP1.out _).mono ?_; rintro e w1 ⟨A1, c1, rfl, hc1, hC1, hb1⟩; have HC1 := Aside0.mk hC1; have HB1 := Aside0.mk hb1; have HL1 := Aside0.mk hc1; clear hC1 hb1 hc1 HP1
  go_wp2_with fail
  refine (HP2.out _).mono ?_; rintro e w2 ⟨A2, c2, rfl, hc2, hC2, hb2⟩; have HC2 := Aside0.mk hC2; have HB2 := Aside0.mk hb2; have HL2 := Aside0.mk hc2; clear hC2 hb2 hc2 HP2
  go_wp2_with fail
  have s1 := str_row w2 pa1 (by decide) (by decide); have s2 := str_row (w2.alloc (.cells (pa1.map Value.string).toArray 9)) pb1 (by decide) (by decide); have hb3 : Below w2.heap.size w2 ((w2.alloc (.cells (pa1.map Value.string).toArray 9)).alloc (.cells (pb1.map Value.string).toArray 9)) := ((Below.refl _ _).alloc (Nat.le_refl _) _).alloc (by simp) _; obtain ⟨w3, hw3⟩ : ∃ w3, w3 = (w2.alloc (.cells (pa1.map Value.string).toArray 9)).alloc (.cells (pb1.map Value.string).toArray 9) := ⟨_, rfl⟩; have hcall := Prefix.calls (some ⟨w2.heap.size, 0, none⟩) (some ⟨w2.heap.size + 1, 0, none⟩) 2 3 pa1 pb1 w3 (by rw [hw3]; exact Kd.C_below s1 ((Below.refl _ _).alloc (Nat.le_refl _) _)) (by decide) (by rw [hw3]; rw [World.size_alloc] at s2; exact s2) (by decide) (by decide); rw [prefix_ex] at hcall; rw [← hw3] at hb3; have HB3 := Aside0.mk hb3; have HW3 := Aside0.mk hw3; have HCALL := Aside0.mk hcall; clear s1 s2 hb3 hw3 hcall
  change Calls _ _ _ ((w2.alloc (.cells (pa1.map Value.string).toArray 9)).alloc (.cells (pb1.map Value.string).toArray 9)) _
  rw [← HW3.out]; refine HCALL.out.mono ?_; rintro e w4 ⟨rfl, n4, rfl⟩; have hb4 : Below w2.heap.size w2 (w3.drewN n4) := ⟨HB3.out.os, HB3.out.tape, HB3.out.output, HB3.out.size, HB3.out.block⟩; have h1 := Kd.C_below (Kd.C_below HC1.out HB2.out) hb4; have h2 := Kd.C_below HC2.out hb4; obtain ⟨w4, hw4⟩ : ∃ w4, w4 = w3.drewN n4 := ⟨_, rfl⟩; rw [← hw4] at hb4 h1 h2 ⊢; have hI1 := In.calls A1 A2 c1 c2 ea eb w4 h1 h2 HL1.out HL2.out flat_ea flat_eb; rw [emb_ex1] at hI1; have HB4 := Aside0.mk hb4; have HI1 := Aside0.mk hI1; have H1 := Aside0.mk h1; have H2 := Aside0.mk h2; clear hb4 h1 h2 hw4 hI1
  go_wp2_with fail
  refine HI1.out.mono ?_; rintro e w5 ⟨rfl, hb5⟩; have hI2 := In.calls A2 A1 c2 c1 eb ea w5 (Kd.C_below H2.out hb5) (Kd.C_below H1.out hb5) HL2.out HL1.out flat_eb flat_ea; rw [emb_ex2] at hI2; have HB5 := Aside0.mk hb5; have HI2 := Aside0.mk hI2; clear hb5 hI2
  go_wp2_with fail
  refine HI2.out.mono ?_; rintro e w6 ⟨rfl, hb6⟩; have HB6 := Aside0.mk (q12 HB1.out (q12 (q12 HB2.out HB4.out) (q12 HB5.out hb6))); clear hb6
  go_wp2_with fail
  go_ret; exact ⟨rfl, HB6.out⟩
end Go.Proofs.Ytjhjhhibbmligaa.TE
end
section
namespace Go.Proofs.Ytjhjhhibbmligaa.TE
open Go.RowKit Go.Shelf Go.Proofs.YtjhjhhibbmligaaW.PrintWords Go.Proofs.YtjhjhhibbmligaaW.PrintLast Go.Proofs.YtjhjhhibbmligaaW.PrintMore Go.Proofs.Ytjhjhhibbmligaa.Evs
set_option linter.unusedVariables false
set_option linter.unusedSimpArgs false
def goP : List Tm → List Int → Tm → Option Tm
  | _, [], x => some x
  | l, i :: r, _ => if h : 0 ≤ i ∧ i.toNat < l.length then goP (l[i.toNat]'h.2).f2 r (l[i.toNat]'h.2) else none
def atR (l : List Tm) (p : List Int) : Tm × Bool :=
  match goP l p z42 with
  | none => (z42, false)
  | some x => (x, decide (0 < p.length))
theorem goP_step {l : List Tm} {p : List Int} {q : Nat} {x : Tm} (hq : q < p.length) : goP l (p.drop q) x = if h : 0 ≤ p[q] ∧ p[q].toNat < l.length then goP (l[p[q].toNat]'h.2).f2 (p.drop (q + 1)) (l[p[q].toNat]'h.2) else none := by
  rw [List.drop_eq_getElem_cons hq, goP]
theorem at_results {tmps : Array Value} {W : World} {b : Nat} {k : Int} {t : ByteArray} {u : Value} {v : Bool} (h2 : tmps.getD 4 undef = .pointer (some ⟨b, 0, none⟩)) (h3 : tmps.getD 5 undef = .bool v) (x0 : W.cell? ⟨b, 0, none⟩ = some (.int .i64 k)) (x1 : W.cell? ⟨b, 1, none⟩ = some (.string t)) (x2 : W.cell? ⟨b, 2, none⟩ = some u) :
    (results Try.f36 tmps).run Try.prog W = .ok (.tuple #[.agg #[.int .i64 k, .string t, u], .bool v]) W := by
  have h2' : tmps[4]?.getD undef = .pointer (some ⟨b, 0, none⟩) := by simpa using h2
  have h3' : tmps[5]?.getD undef = .bool v := by simpa using h3
  have hu := Try.underlying42; simp [results, Try.results36, h2', h3', go_sem, x0, x1, x2]
theorem below3' {B b : Nat} {w W : World} {x y z : Value} (h : Below B w W) (hb : B ≤ b) : Below B w (((W.setCell ⟨b, 0, none⟩ x).setCell ⟨b, 1, none⟩ y).setCell ⟨b, 2, none⟩ z) :=
  ((h.setCell (p := ⟨b, 0, none⟩) hb _).setCell (p := ⟨b, 1, none⟩) hb _).setCell (p := ⟨b, 2, none⟩) hb _
theorem oth3 {W : World} {b g : Nat} {x y z : Value} (h : g ≠ b) : (((W.setCell ⟨b, 0, none⟩ x).setCell ⟨b, 1, none⟩ y).setCell ⟨b, 2, none⟩ z).heap[g]? = W.heap[g]? := by
  rw [Below.heap_setCell _ ⟨b, 2, none⟩ _ _ h, Below.heap_setCell _ ⟨b, 1, none⟩ _ _ h, Below.heap_setCell _ ⟨b, 0, none⟩ _ _ h]
set_option maxRecDepth 100000 in
set_option maxHeartbeats 4000000 in
theorem At.calls (A : Option Addr) (c : Nat) (l : List Tm) (P : Option Addr) (d : Nat) (p : List Int) (w : World) (hC : Kd.C k42 w A l.length l) (hc : l.length ≤ c) (hP : Kd.C (Kd.int .i64) w P p.length p) (hd : p.length ≤ d) (hpl : p.length ≤ 1048576) :
    Calls Try.prog 36 #[.slice A l.length c, .slice P p.length d] w fun e w' => ∃ A' c', e = .returned (.tuple #[.agg #[.int .i64 (atR l p).1.f0, .string (atR l p).1.f1, .slice A' (atR l p).1.f2.length c'], .bool (atR l p).2]) ∧ (atR l p).1.f2.length ≤ c' ∧ Kd.C k42 w' A' (atR l p).1.f2.length (atR l p).1.f2 ∧ Below w.heap.size w w' := by
  have hb0 : Below w.heap.size w (w.alloc (.cells #[.int .i64 0, .string ⟨#[]⟩, .slice none 0 0] 42)) := (Below.refl _ _).alloc (Nat.le_refl _) _; have hn0 := World.alloc_heap_new w (.cells #[.int .i64 0, .string ⟨#[]⟩, .slice none 0 0] 42)
  have hs0 : (w.alloc (.cells #[.int .i64 0, .string ⟨#[]⟩, .slice none 0 0] 42)).heap.size = w.heap.size + 1 := by simp
  obtain ⟨W0, hW0⟩ : ∃ W0, w.alloc (.cells #[.int .i64 0, .string ⟨#[]⟩, .slice none 0 0] 42) = W0 := ⟨_, rfl⟩; rw [hW0] at hb0 hn0 hs0; have hb1 : Below W0.heap.size W0 (W0.alloc (.cells #[.int .i64 0, .string ⟨#[]⟩, .slice none 0 0] 42)) := (Below.refl _ _).alloc (Nat.le_refl _) _; have hn1 := World.alloc_heap_new W0 (.cells #[.int .i64 0, .string ⟨#[]⟩, .slice none 0 0] 42); obtain ⟨W1, hW1⟩ : ∃ W1, W0.alloc (.cells #[.int .i64 0, .string ⟨#[]⟩, .slice none 0 0] 42) = W1 := ⟨_, rfl⟩; rw [hW1] at hb1 hn1; have hz1 := (hb1.block _ (Array.getElem?_eq_some_iff.1 hn0).1).trans hn0; rw [hs0] at hn1; have HB1 := Aside0.mk (q12 hb0 hb1); have HN1 := Aside0.mk hn1; have HZ1 := Aside0.mk hz1; have HW : Aside0 ((w.alloc (.cells #[.int .i64 0, .string ⟨#[]⟩, .slice none 0 0] 42)).alloc (.cells #[.int .i64 0, .string ⟨#[]⟩, .slice none 0 0] 42) = W1) := ⟨by rw [hW0, hW1]⟩; have HC := Aside0.mk hC; have HCC := Aside0.mk hc; have HP := Aside0.mk hP; have HPL := Aside0.mk hpl; clear hb0 hn0 hs0 hb1 hn1 hz1 hW1 hW0 hC hc hP hd hpl
  go_enter Try.func36, Try.ntmps36
  go_wp2_with fail
  rw [HW.out]
  go_loopw [0, 11] (fun s i wr => ∃ (q : Nat) (cur : List Tm) (A1 : Option Addr) (c1 : Nat) (x : Tm) (A2 : Option Addr) (c2 : Nat), i = .int .i64 q ∧ s = .slice A1 cur.length c1 ∧ q ≤ p.length ∧ Aside0 (goP l p z42 = goP cur (p.drop q) x) ∧ Aside0 (Kd.C k42 w A1 cur.length cur) ∧ Aside0 (cur.length ≤ c1) ∧ Aside0 (Below w.heap.size w wr) ∧ Aside0 (wr.heap[w.heap.size]? = some (.cells #[.int .i64 0, .string ⟨#[]⟩, .slice none 0 0] 42 (0, 0))) ∧ Aside0 (wr.heap[w.heap.size + 1]? = some (.cells #[.int .i64 x.f0, .string x.f1, .slice A2 x.f2.length c2] 42 (0, 0))) ∧ Aside0 (x.f2.length ≤ c2) ∧ Aside0 (Kd.C k42 w A2 x.f2.length x.f2)) (fun s i wr => p.length - (intOf i).toNat)
  case atStart => exact ⟨0, l, A, c, z42, none, 0, rfl, rfl, Nat.zero_le _, ⟨by rw [List.drop_zero]⟩, HC, HCC, HB1, HZ1, HN1, ⟨Nat.le_refl _⟩, ⟨Kd.C_nil k42 w⟩⟩
  case round =>
    obtain ⟨q, cur, A1, c1, x, A2, c2, rfl, rfl, hq, HG, HC1, HC1l, HB, HZ, HX, HX2, HXC⟩ := hrel; have hq0 : (0 : Int) ≤ (q : Int) := Int.natCast_nonneg _; have x0 : wr.cell? ⟨w.heap.size, 0, none⟩ = some (.int .i64 0) := (q4 HZ.out 0).trans rfl; have x1 : wr.cell? ⟨w.heap.size, 1, none⟩ = some (.string ⟨#[]⟩) := (q4 HZ.out 1).trans rfl; have x2 : wr.cell? ⟨w.heap.size, 2, none⟩ = some (.slice none 0 0) := (q4 HZ.out 2).trans rfl; have f0 : wr.frozen? ⟨w.heap.size, 0, none⟩ = false := q11 HZ.out 0; have f1 : wr.frozen? ⟨w.heap.size, 1, none⟩ = false := q11 HZ.out 1; have f2 : wr.frozen? ⟨w.heap.size, 2, none⟩ = false := q11 HZ.out 2; have y0 : wr.cell? ⟨w.heap.size + 1, 0, none⟩ = some (.int .i64 x.f0) := (q4 HX.out 0).trans rfl; have y1 : wr.cell? ⟨w.heap.size + 1, 1, none⟩ = some (.string x.f1) := (q4 HX.out 1).trans rfl; have y2 : wr.cell? ⟨w.heap.size + 1, 2, none⟩ = some (.slice A2 x.f2.length c2) := (q4 HX.out 2).trans rfl; have g0 : wr.frozen? ⟨w.heap.size + 1, 0, none⟩ = false := q11 HX.out 0; have g1 : wr.frozen? ⟨w.heap.size + 1, 1, none⟩ = false := q11 HX.out 1; have g2 : wr.frozen? ⟨w.heap.size + 1, 2, none⟩ = false := q11 HX.out 2
    by_cases hlt : q < p.length
    · obtain ⟨pad, rfl, hpc⟩ := Kd.at_int HP.out (q : Int) (by omega) (by omega); rw [Int.toNat_natCast] at hpc
      have hrd : rd p (q : Int) = p[q] := by simp [rd, List.getD_eq_getElem?_getD, List.getElem?_eq_getElem hlt]
      rw [hrd] at hpc; replace hpc := (HB.out.cell (World.block_lt_of_cell? w _ hpc)).trans hpc; have HGS := Aside0.mk (HG.out.trans (goP_step (l := cur) (x := x) hlt)); obtain ⟨i, hi⟩ : ∃ i, i = p[q] := ⟨_, rfl⟩; rw [← hi] at hpc HGS
      have hlb : decide ((q : Int) < (p.length : Int)) = true := by simp; omega
      have hqi : (q : Int) < (p.length : Int) := by omega
      have hw : IntKind.i64.wrap ((q : Int) + 1) = (q : Int) + 1 := by have := HPL.out; rw [i64_w]; rw [wrap64_id (by omega) (by omega)]
      clear hi hrd
      by_cases hin : 0 ≤ i ∧ i.toNat < cur.length
      · obtain ⟨hi0, hi1⟩ := hin; obtain ⟨ad, A3, c3, rfl, hx0, hx1, hx2, hl3, hr3⟩ := at_T42 HC1.out i hi0 (by omega); have hx : cur[i.toNat]? = some (cur[i.toNat]'hi1) := List.getElem?_eq_getElem hi1; obtain ⟨z, hz⟩ : ∃ z, z = cur[i.toNat]'hi1 := ⟨_, rfl⟩; rw [dif_pos ⟨hi0, hi1⟩, ← hz] at HGS; rw [← hz] at hx
        have hrd : rd_T42 cur i = z := by simp [rd_T42, List.getD_eq_getElem?_getD, hx]
        rw [hrd] at hx0 hx1 hx2 hl3 hr3; replace hx0 := (HB.out.cell (World.block_lt_of_cell? w _ hx0)).trans hx0; replace hx1 := (HB.out.cell (World.block_lt_of_cell? w _ hx1)).trans hx1; replace hx2 := (HB.out.cell (World.block_lt_of_cell? w _ hx2)).trans hx2; have hib : decide ((i : Int) < 0) = false := decide_eq_false (by omega)
        have hilt : (i : Int) < (cur.length : Int) := by omega
        have hic : decide ((i : Int) ≥ (cur.length : Int)) = false := decide_eq_false (by omega); have HL3 := Aside0.mk hl3; have HR3 := Aside0.mk hr3; clear hz hx hrd hl3 hr3 hi1; have hn' := blk3 (x := .int .i64 z.f0) (y := .string z.f1) (z := .slice A3 z.f2.length c3) HX.out; have ho' := (oth3 (b := w.heap.size + 1) (x := .int .i64 z.f0) (y := .string z.f1) (z := .slice A3 z.f2.length c3) (W := wr) (show w.heap.size ≠ w.heap.size + 1 by omega)).trans HZ.out; have hb' := below3' (b := w.heap.size + 1) (x := .int .i64 z.f0) (y := .string z.f1) (z := .slice A3 z.f2.length c3) HB.out (by omega); obtain ⟨W', hW'⟩ : ∃ W', ((wr.setCell ⟨w.heap.size + 1, 0, none⟩ (.int .i64 z.f0)).setCell ⟨w.heap.size + 1, 1, none⟩ (.string z.f1)).setCell ⟨w.heap.size + 1, 2, none⟩ (.slice A3 z.f2.length c3) = W' := ⟨_, rfl⟩; rw [hW'] at hn' ho' hb'; have HN' := Aside0.mk hn'; have HO' := Aside0.mk ho'; have HB' := Aside0.mk hb'; have HW' := Aside0.mk hW'; have z2 : W'.cell? ⟨w.heap.size + 1, 2, none⟩ = some (.slice A3 z.f2.length c3) := (q4 hn' 2).trans rfl; clear hn' ho' hb' hW'
        go_wp2_with fail
        rw [HW'.out]; exact ⟨⟨q + 1, z.f2, A3, c3, z, A3, c3, by go_num, rfl, by omega, HGS, HR3, HL3, HB', HO', HN', HL3, HR3⟩, by simp [intOf]; omega⟩
      · have HN : Aside0 (atR l p = (z42, false)) := ⟨by unfold atR; rw [HGS.out, dif_neg hin]⟩
        have hout : ((i : Int) < 0) ∨ (i : Int) ≥ (cur.length : Int) := by omega
        by_cases hi0 : i < 0
        · have hib : decide ((i : Int) < 0) = true := decide_eq_true hi0; clear hin hout
          go_wp2_with fail
          refine bodyPost_ret (at_results (b := w.heap.size) rfl rfl ((q4 (blk3 HZ.out) 0).trans rfl) ((q4 (blk3 HZ.out) 1).trans rfl) ((q4 (blk3 HZ.out) 2).trans rfl)) rfl ?_; rw [HN.out]; exact ⟨none, 0, rfl, Nat.le_refl _, Kd.C_nil _ _, below3 HB.out⟩
        · have hib : decide ((i : Int) < 0) = false := decide_eq_false hi0; have hic : decide ((i : Int) ≥ (cur.length : Int)) = true := decide_eq_true (by omega); clear hin hout
          go_wp2_with fail
          refine bodyPost_ret (at_results (b := w.heap.size) rfl rfl ((q4 (blk3 HZ.out) 0).trans rfl) ((q4 (blk3 HZ.out) 1).trans rfl) ((q4 (blk3 HZ.out) 2).trans rfl)) rfl ?_; rw [HN.out]; exact ⟨none, 0, rfl, Nat.le_refl _, Kd.C_nil _ _, below3 HB.out⟩
    · have hqe : q = p.length := by omega
      have HR : Aside0 (atR l p = (x, decide (0 < p.length))) := ⟨by unfold atR; rw [HG.out, hqe, List.drop_length, goP]⟩; have hlb : decide ((q : Int) < (p.length : Int)) = false := decide_eq_false (by omega); have hlb' : decide (q < p.length) = false := decide_eq_false hlt; obtain ⟨pb, hpb⟩ : ∃ pb, pb = decide (0 < p.length) := ⟨_, rfl⟩
      have hgb : decide ((p.length : Int) > 0) = pb := by rw [hpb]; simp
      have HPB := Aside0.mk hpb; clear hqe hlt hpb
      go_wp2_with fail
      refine bodyPost_ret (at_results (b := w.heap.size) rfl rfl ((q4 (blk3 HZ.out) 0).trans rfl) ((q4 (blk3 HZ.out) 1).trans rfl) ((q4 (blk3 HZ.out) 2).trans rfl)) rfl ?_; rw [HR.out]; exact ⟨A2, c2, rfl, HX2.out, Kd.C_below HXC.out (below3 HB.out), below3 HB.out⟩
end Go.Proofs.Ytjhjhhibbmligaa.TE
end
section
namespace Go.Proofs.Ytjhjhhibbmligaa.TE
open Go.RowKit Go.Shelf Go.Proofs.YtjhjhhibbmligaaW.PrintWords Go.Proofs.YtjhjhhibbmligaaW.PrintLast Go.Proofs.YtjhjhhibbmligaaW.PrintMore Go.Proofs.Ytjhjhhibbmligaa.Evs
set_option linter.unusedVariables false
set_option linter.unusedSimpArgs false
theorem rcopy_loop {x0 : List S42} (hb : x0.length ≤ 1099511627776) : ∀ (r : List S42) (n : Nat) (a : List S42), x0.drop n = r → a.length + r.length ≤ 1099511627776 → (∀ x ∈ r, Evt (fun k => chiasmusref01_Copy.f k x.f2) x.f2) →
    Evt (fun k => chiasmusref01_Copy.l0 k x0 a (n : Int)) (a ++ r)
  | [], n, a, h, _, _ => by
    refine Evt.succ ?_; simp only [chiasmusref01_Copy.l0, if_neg (stop h)]; exact (Evt.const _).eq (by simp)
  | x :: r, n, a, h, ha, hk => by
    obtain ⟨h1, h2, h3, h4, h5⟩ := mid h hb; simp only [List.length_cons] at ha
    have hx : (⟨x.f0, x.f1, x.f2⟩ : S42) = x := by cases x; rfl
    have ih : Evt (fun k => chiasmusref01_Copy.l0 k x0 (a ++ [x]) ((n + 1 : Nat) : Int)) (a ++ x :: r) :=
      (rcopy_loop hb r (n + 1) (a ++ [x]) h4 (by simp; omega) fun y hy => hk y (List.mem_cons_of_mem _ hy)).eq (by simp)
    refine Evt.succ ?_; simp only [chiasmusref01_Copy.l0, if_pos h1, if_pos h2, rd_mid h3, h5]
    by_cases c : (x.f2.length : Int) > 0
    · simp only [if_pos c]; refine Evt.bind (hk x List.mem_cons_self) ?_; simp only [if_pos (show a.length < 2932031007402 by omega), hx]; exact ih
    · have hn : x.f2 = [] := List.length_eq_zero_iff.1 (by omega)
      have hx' : (⟨x.f0, x.f1, []⟩ : S42) = x := by cases x; simp only at hn; rw [hn]
      simp only [if_neg c, if_pos (show a.length < 2932031007402 by omega), hx']; exact ih
theorem rcopy_ev : ∀ (n : Nat) (l : List S42), bk42s l ≤ n → n ≤ 1099511627776 → Evt (fun k => chiasmusref01_Copy.f k l) l := by
  intro n
  induction n using Nat.strongRecOn with
  | _ n ih =>
    intro l h hn; have := bk_len l; refine Evt.succ ?_; simp only [chiasmusref01_Copy.f]
    exact (rcopy_loop (by omega) l 0 [] rfl (by simp; omega) fun x hx => by
      have := bk_mem hx
      exact ih (bk42s x.f2) (by omega) x.f2 (Nat.le_refl _) (by omega)).eq (by simp)
theorem one_C {w : World} {b : Nat} {x : Tm} {A : Option Addr} {c : Nat} (h : w.heap[b]? = some (.cells #[.int .i64 x.f0, .string x.f1, .slice A x.f2.length c] 42 (0, 0))) (hA : Kd.C k42 w A x.f2.length x.f2) (hc : x.f2.length ≤ c) :
    Kd.C k42 w (some ⟨b, 0, none⟩) 1 [x] := by
  refine ⟨rfl, by decide, fun _ => ⟨_, rfl, fun j p hp => ?_⟩⟩
  have hj : j = 0 := by
    rcases Nat.eq_zero_or_pos j with h | h
    · exact h
    · rw [List.getElem?_eq_none (by simp; omega)] at hp; simp at hp
  subst hj
  obtain rfl : x = p := by simpa using hp
  refine ⟨[.int .i64 x.f0, .string x.f1, .slice A x.f2.length c], rfl, ?_, fun i u hu => ?_⟩
  · exact k42_mk w x hc hA
  · rw [add_plain]; refine (q4 h _).trans ?_
    match i, hu with
    | 0, hu => exact hu
    | 1, hu => exact hu
    | 2, hu => exact hu
theorem own_one {W : World} {base : Nat} {v : Value} {z : Tm} (h : k42.R 42 W base (fun _ => True) v [z]) :
    ∃ g c A4 c4, v = .slice (some ⟨g, 0, none⟩) 1 c ∧ 1 ≤ c ∧ base ≤ g ∧ W.cell? ⟨g, 0, none⟩ = some (.int .i64 z.f0) ∧ W.cell? ⟨g, 1, none⟩ = some (.string z.f1) ∧ W.cell? ⟨g, 2, none⟩ = some (.slice A4 z.f2.length c4) ∧ z.f2.length ≤ c4 ∧
      ∀ W', (∀ k, base ≤ k → W'.heap[k]? = W.heap[k]?) → k42.C W' A4 z.f2.length z.f2 := by
  obtain ⟨ad, c, rfl⟩ := Kd.R_slice1 h (by simp); have h' : k42.R 42 W base (fun _ => True) (.slice (some ad) 1 c) [z] := h; obtain ⟨g, rfl⟩ := Kd.R_head h'; have hc := (Kd.R_reads' h').2.1
  have hg : base ≤ g := (Kd.R_bound h').1 g (by simp [Value.ownBlock]) |>.2.1
  obtain ⟨cs, hcl, hM, hcc⟩ := Kd.R_get h' z 0 (by omega) (by omega); have hM' : k42.M W base (fun k => True ∧ some k ≠ (Value.slice (some ⟨g, 0, none⟩) 1 c).ownBlock) z cs := hM; obtain ⟨v2, rfl, hR⟩ := k42_openM hM'; obtain ⟨A4, c4, rfl, hl, _⟩ := Kd.R_reads hR
  have cell : ∀ j u, ([.int .i64 z.f0, .string z.f1, .slice A4 z.f2.length c4] : List Value)[j]? = some u → W.cell? ⟨g, j, none⟩ = some u := fun j u hu => by
    have := hcc j u hu; rw [add_plain] at this
    simpa using this
  refine ⟨g, c, A4, c4, rfl, hc, hg, cell 0 _ rfl, cell 1 _ rfl, cell 2 _ rfl, hl, fun W' hW => ?_⟩; exact (Kd.R_reads' (Kd.R_step (Kd.R_bound hR) (fun k hk _ => hW k hk.2.1))).2.2
def rA : List Int → List Tm → Option Tm
  | [], _ => none
  | i :: r, l => if h : 0 ≤ i ∧ i.toNat < l.length then (if r = [] then some (l[i.toNat]'h.2) else rA r (l[i.toNat]'h.2).f2) else none
def rAR (p : List Int) (l : List Tm) : Tm × Bool :=
  match rA p l with
  | none => (z42, false)
  | some x => (x, true)
theorem goP_rA : ∀ (p : List Int) (l : List Tm) (x : Tm), p ≠ [] → goP l p x = rA p l
  | [], l, x, h => absurd rfl h
  | i :: r, l, x, _ => by
    rw [goP, rA]
    by_cases h : 0 ≤ i ∧ i.toNat < l.length
    · rw [dif_pos h, dif_pos h]
      by_cases hr : r = []
      · rw [if_pos hr, hr, goP]
      · rw [if_neg hr, goP_rA r _ _ hr]
    · rw [dif_neg h, dif_neg h]
theorem atR_eq (l : List Tm) (p : List Int) : atR l p = rAR p l := by
  unfold atR rAR
  cases p with
  | nil => rfl
  | cons i r =>
    rw [goP_rA _ _ _ (by simp)]
    cases rA (i :: r) l <;> rfl
theorem rat_results {tmps : Array Value} {W : World} {b : Nat} {k : Int} {t : ByteArray} {u : Value} {v : Bool} (h2 : tmps.getD 4 undef = .pointer (some ⟨b, 0, none⟩)) (h3 : tmps.getD 5 undef = .bool v) (x0 : W.cell? ⟨b, 0, none⟩ = some (.int .i64 k)) (x1 : W.cell? ⟨b, 1, none⟩ = some (.string t)) (x2 : W.cell? ⟨b, 2, none⟩ = some u) :
    (results Try.f87 tmps).run Try.prog W = .ok (.tuple #[.agg #[.int .i64 k, .string t, u], .bool v]) W := by
  have h2' : tmps[4]?.getD undef = .pointer (some ⟨b, 0, none⟩) := by simpa using h2
  have h3' : tmps[5]?.getD undef = .bool v := by simpa using h3
  have hu := Try.underlying42; simp [results, Try.results87, h2', h3', go_sem, x0, x1, x2]
set_option maxRecDepth 100000 in
set_option maxHeartbeats 4000000 in
theorem rAt.calls : ∀ (p : List Int) (A : Option Addr) (c : Nat) (l : List Tm) (P : Option Addr) (d : Nat) (w : World) (hC : Kd.C k42 w A l.length l) (hc : l.length ≤ c) (hP : Kd.C (Kd.int .i64) w P p.length p) (hd : p.length ≤ d) (hpl : p.length ≤ 1048576) (hb : bk42s l ≤ 1048576),
    Calls Try.prog 87 #[.slice A l.length c, .slice P p.length d] w fun e w' => ∃ A' c', e = .returned (.tuple #[.agg #[.int .i64 (rAR p l).1.f0, .string (rAR p l).1.f1, .slice A' (rAR p l).1.f2.length c'], .bool (rAR p l).2]) ∧ (rAR p l).1.f2.length ≤ c' ∧ (∀ W', (∀ k, w.heap.size < k → W'.heap[k]? = w'.heap[k]?) → Kd.C k42 W' A' (rAR p l).1.f2.length (rAR p l).1.f2) ∧ Below w.heap.size w w' := by
  intro p
  induction p with
  | nil =>
    intro A c l P d w hC hc hP hd hpl hb; have hb0 : Below w.heap.size w (w.alloc (.cells #[.int .i64 0, .string ⟨#[]⟩, .slice none 0 0] 42)) := (Below.refl _ _).alloc (Nat.le_refl _) _; have hn0 := World.alloc_heap_new w (.cells #[.int .i64 0, .string ⟨#[]⟩, .slice none 0 0] 42); obtain ⟨W0, hW0⟩ : ∃ W0, w.alloc (.cells #[.int .i64 0, .string ⟨#[]⟩, .slice none 0 0] 42) = W0 := ⟨_, rfl⟩; rw [hW0] at hb0 hn0; have HW0 := Aside0.mk hW0; have HN0 := Aside0.mk hn0; have HB0 := Aside0.mk hb0; clear hW0 hC hc hP hd hpl hb hb0; have x0 : W0.cell? ⟨w.heap.size, 0, none⟩ = some (.int .i64 0) := (q4 hn0 0).trans rfl; have x1 : W0.cell? ⟨w.heap.size, 1, none⟩ = some (.string ⟨#[]⟩) := (q4 hn0 1).trans rfl; have x2 : W0.cell? ⟨w.heap.size, 2, none⟩ = some (.slice none 0 0) := (q4 hn0 2).trans rfl; have f0 : W0.frozen? ⟨w.heap.size, 0, none⟩ = false := q11 hn0 0; have f1 : W0.frozen? ⟨w.heap.size, 1, none⟩ = false := q11 hn0 1; have f2 : W0.frozen? ⟨w.heap.size, 2, none⟩ = false := q11 hn0 2; clear hn0
    go_enter Try.func87, Try.ntmps87
    go_wp2_with fail
    rw [HW0.out]
    go_wp2_with fail
    refine bodyPost_ret (rat_results (b := w.heap.size) rfl rfl ((q4 HN0.out 0).trans rfl) ((q4 HN0.out 1).trans rfl) ((q4 HN0.out 2).trans rfl)) rfl ?_; exact ⟨none, 0, rfl, Nat.le_refl _, fun _ _ => Kd.C_nil _ _, HB0.out⟩
  | cons i r ih =>
    intro A c l P d w hC hc hP hd hpl hb; obtain ⟨pad, rfl, hpc⟩ := Kd.at_int hP (0 : Int) (by omega) (by simp only [List.length_cons]; omega); rw [show pad.add (Int.toNat 0) = pad from by simp [Addr.add]] at hpc
    have hrd : rd (i :: r) (0 : Int) = i := by simp [rd]
    rw [hrd] at hpc; obtain ⟨m, hm⟩ : ∃ m, m = (i :: r).length := ⟨_, rfl⟩
    have hm0 : 0 < m := by rw [hm]; simp
    have hmr : m = r.length + 1 := by rw [hm]; simp
    rw [← hm] at hd hpl ⊢; have hb0 : Below w.heap.size w (w.alloc (.cells #[.int .i64 0, .string ⟨#[]⟩, .slice none 0 0] 42)) := (Below.refl _ _).alloc (Nat.le_refl _) _; have hn0 := World.alloc_heap_new w (.cells #[.int .i64 0, .string ⟨#[]⟩, .slice none 0 0] 42); obtain ⟨W0, hW0⟩ : ∃ W0, w.alloc (.cells #[.int .i64 0, .string ⟨#[]⟩, .slice none 0 0] 42) = W0 := ⟨_, rfl⟩; rw [hW0] at hb0 hn0; replace hpc := (hb0.cell (World.block_lt_of_cell? w _ hpc)).trans hpc; have HW0 := Aside0.mk hW0; have HN0 := Aside0.mk hn0; have HB0 := Aside0.mk hb0; have HC := Aside0.mk hC; have HCC := Aside0.mk hc; have HP := Aside0.mk hP; have HD := Aside0.mk hd; have HM := Aside0.mk hm; have HMR := Aside0.mk hmr; have HPL := Aside0.mk hpl; have HBK := Aside0.mk hb; have IH := Aside0.mk ih; have x0 : W0.cell? ⟨w.heap.size, 0, none⟩ = some (.int .i64 0) := (q4 hn0 0).trans rfl; have x1 : W0.cell? ⟨w.heap.size, 1, none⟩ = some (.string ⟨#[]⟩) := (q4 hn0 1).trans rfl; have x2 : W0.cell? ⟨w.heap.size, 2, none⟩ = some (.slice none 0 0) := (q4 hn0 2).trans rfl; have f0 : W0.frozen? ⟨w.heap.size, 0, none⟩ = false := q11 hn0 0; have f1 : W0.frozen? ⟨w.heap.size, 1, none⟩ = false := q11 hn0 1; have f2 : W0.frozen? ⟨w.heap.size, 2, none⟩ = false := q11 hn0 2
    have e0 : (((m : Nat) : Int) == 0) = false := by simp; omega
    have m1 : (0 : Int) < (m : Int) := by omega
    clear hW0 hn0 hb0 hC hc hP hd hm hmr hpl hb ih hrd
    by_cases hin : 0 ≤ i ∧ i.toNat < l.length
    · obtain ⟨hi0, hi1⟩ := hin; have e1 : decide ((i : Int) < 0) = false := decide_eq_false (by omega); have e2 : decide ((i : Int) ≥ (l.length : Int)) = false := decide_eq_false (by omega)
      have hilt : (i : Int) < (l.length : Int) := by omega
      obtain ⟨ad, A3, c3, rfl, hx0, hx1, hx2, hl3, hr3⟩ := at_T42 HC.out i hi0 (by omega); have hx : l[i.toNat]? = some (l[i.toNat]'hi1) := List.getElem?_eq_getElem hi1; have hmem : l[i.toNat]'hi1 ∈ l := List.getElem_mem hi1; have HZ : Aside0 (rA (i :: r) l = if r = [] then some (l[i.toNat]'hi1) else rA r (l[i.toNat]'hi1).f2) := ⟨by rw [rA, dif_pos ⟨hi0, hi1⟩]⟩; obtain ⟨z, hz⟩ : ∃ z, z = l[i.toNat]'hi1 := ⟨_, rfl⟩; rw [← hz] at hx hmem HZ
      have hrd : rd_T42 l i = z := by simp [rd_T42, List.getD_eq_getElem?_getD, hx]
      rw [hrd] at hx0 hx1 hx2 hl3 hr3; replace hx0 := (HB0.out.cell (World.block_lt_of_cell? w _ hx0)).trans hx0; replace hx1 := (HB0.out.cell (World.block_lt_of_cell? w _ hx1)).trans hx1; replace hx2 := (HB0.out.cell (World.block_lt_of_cell? w _ hx2)).trans hx2; have HL3 := Aside0.mk hl3; have HR3 := Aside0.mk hr3; have HMEM := Aside0.mk hmem; have hb1 : Below W0.heap.size W0 (W0.alloc (.cells #[.int .i64 z.f0, .string z.f1, .slice A3 z.f2.length c3] 42)) := (Below.refl _ _).alloc (Nat.le_refl _) _; have hn1 := World.alloc_heap_new W0 (.cells #[.int .i64 z.f0, .string z.f1, .slice A3 z.f2.length c3] 42); obtain ⟨W1, hW1⟩ : ∃ W1, W0.alloc (.cells #[.int .i64 z.f0, .string z.f1, .slice A3 z.f2.length c3] 42) = W1 := ⟨_, rfl⟩; rw [hW1] at hb1 hn1; have HW1 := Aside0.mk hW1; have HN1 := Aside0.mk hn1; have HB1 := Aside0.mk hb1; have HBB1 := Aside0.mk (q12 HB0.out hb1); have HO1 := Aside0.mk ((hb1.block _ (Array.getElem?_eq_some_iff.1 HN0.out).1).trans HN0.out); clear hz hx hrd hl3 hr3 hi1 hmem hb1 hn1 hW1
      go_enter Try.func87, Try.ntmps87
      go_upto_region 1 with fail
      rw [HW0.out]
      go_upto_region 4 with fail
      rw [HW1.out]
      rcases r with _ | ⟨i', r'⟩
      · have e3 : (((m : Nat) : Int) == 1) = true := by have := HMR.out; simp at this; simp [this]
        have hmr : m = 1 := by have := HMR.out; simpa using this
        have HR : Aside0 (rAR [i] l = (z, true)) := ⟨by unfold rAR; rw [HZ.out, if_pos rfl]⟩; obtain ⟨k1, hk1⟩ := (rcopy_ev _ [z] (Nat.le_refl _) (by have h1 := bk_mem HMEM.out; have h2 := HBK.out; have h3 : bk42s [z] = bk42 z := (by simp [bk42s]); have h4 := bk42_eq z; omega)).get; have HK1 := Aside0.mk hk1; have y0 : W1.cell? ⟨W0.heap.size, 0, none⟩ = some (.int .i64 z.f0) := (q4 HN1.out 0).trans rfl; have y1 : W1.cell? ⟨W0.heap.size, 1, none⟩ = some (.string z.f1) := (q4 HN1.out 1).trans rfl; have y2 : W1.cell? ⟨W0.heap.size, 2, none⟩ = some (.slice A3 z.f2.length c3) := (q4 HN1.out 2).trans rfl; have hb2 : Below W1.heap.size W1 (W1.alloc (.cells #[.int .i64 z.f0, .string z.f1, .slice A3 z.f2.length c3] 42)) := (Below.refl _ _).alloc (Nat.le_refl _) _; have hn2 := World.alloc_heap_new W1 (.cells #[.int .i64 z.f0, .string z.f1, .slice A3 z.f2.length c3] 42); obtain ⟨W2, hW2⟩ : ∃ W2, W1.alloc (.cells #[.int .i64 z.f0, .string z.f1, .slice A3 z.f2.length c3] 42) = W2 := ⟨_, rfl⟩; rw [hW2] at hb2 hn2; have HW2 := Aside0.mk hW2; have HN2 := Aside0.mk hn2; have HB2 := Aside0.mk (q12 HBB1.out hb2); have HO2 := Aside0.mk ((hb2.block _ (Array.getElem?_eq_some_iff.1 HO1.out).1).trans HO1.out); clear hb2 hn2 hW2 hk1 x0 x1 x2 f0 f1 f2 hx0 hx1 hx2 hpc; subst hmr
        go_wp2_with fail
        rw [HW2.out]; refine (chiasmusref01_Copy.calls k1 _ 1 [z] [z] W2 (one_C (x := z) HN2.out (Kd.C_below HR3.out HB2.out) HL3.out) (Nat.le_refl _) HK1.out).mono ?_; rintro e w3 ⟨v, rfl, hR, hb3⟩; obtain ⟨g, ct, A4, c4, rfl, hct, hg, q0, q1, q2, hl4, hr4⟩ := own_one hR; have HO3 := Aside0.mk ((hb3.block _ (Array.getElem?_eq_some_iff.1 HO2.out).1).trans HO2.out); have HB3 := Aside0.mk (q12 HB2.out hb3); have HL4 := Aside0.mk hl4; have HR4 := Aside0.mk hr4; have f0 : w3.frozen? ⟨w.heap.size, 0, none⟩ = false := q11 HO3.out 0; have f1 : w3.frozen? ⟨w.heap.size, 1, none⟩ = false := q11 HO3.out 1; have f2 : w3.frozen? ⟨w.heap.size, 2, none⟩ = false := q11 HO3.out 2; have x0 : w3.cell? ⟨w.heap.size, 0, none⟩ = some (.int .i64 0) := (q4 HO3.out 0).trans rfl; have x1 : w3.cell? ⟨w.heap.size, 1, none⟩ = some (.string ⟨#[]⟩) := (q4 HO3.out 1).trans rfl; have x2 : w3.cell? ⟨w.heap.size, 2, none⟩ = some (.slice none 0 0) := (q4 HO3.out 2).trans rfl; have HG : Aside0 (w.heap.size < W2.heap.size) := ⟨(Array.getElem?_eq_some_iff.1 HO2.out).1⟩; clear hR hb3 hg hl4 hr4
        go_wp2_with fail
        refine bodyPost_ret (rat_results (b := w.heap.size) rfl rfl ((q4 (blk3 HO3.out) 0).trans rfl) ((q4 (blk3 HO3.out) 1).trans rfl) ((q4 (blk3 HO3.out) 2).trans rfl)) rfl ?_; rw [HR.out]; exact ⟨A4, c4, rfl, HL4.out, fun W' hW => HR4.out _ (fun k hk => (hW k (by have := HG.out; omega)).trans (oth3 (by have := HG.out; omega))), below3 HB3.out⟩
      · have e3 : (((m : Nat) : Int) == 1) = false := by have := HMR.out; simp at this; simp; omega
        have m2 : (1 : Int) < (m : Int) := by have := HMR.out; simp at this; omega
        have y0 : W1.cell? ⟨W0.heap.size, 0, none⟩ = some (.int .i64 z.f0) := (q4 HN1.out 0).trans rfl; have y1 : W1.cell? ⟨W0.heap.size, 1, none⟩ = some (.string z.f1) := (q4 HN1.out 1).trans rfl; have y2 : W1.cell? ⟨W0.heap.size, 2, none⟩ = some (.slice A3 z.f2.length c3) := (q4 HN1.out 2).trans rfl; clear x0 x1 x2 f0 f1 f2 hx0 hx1 hx2 hpc; have HR : Aside0 (rAR (i :: i' :: r') l = rAR (i' :: r') z.f2) := ⟨by unfold rAR; rw [HZ.out, if_neg (by simp)]⟩
        have HIH : Aside0 (∀ (P : Option Addr) (n d : Nat) (W : World), n = (i' :: r').length → Kd.C k42 W A3 z.f2.length z.f2 → Kd.C (Kd.int .i64) W P n (i' :: r') → n ≤ d →
            Calls Try.prog 87 #[.slice A3 z.f2.length c3, .slice P n d] W fun e w' => ∃ A' c', e = .returned (.tuple #[.agg #[.int .i64 (rAR (i' :: r') z.f2).1.f0, .string (rAR (i' :: r') z.f2).1.f1, .slice A' (rAR (i' :: r') z.f2).1.f2.length c'], .bool (rAR (i' :: r') z.f2).2]) ∧ (rAR (i' :: r') z.f2).1.f2.length ≤ c' ∧ (∀ W', (∀ k, W.heap.size < k → W'.heap[k]? = w'.heap[k]?) → Kd.C k42 W' A' (rAR (i' :: r') z.f2).1.f2.length (rAR (i' :: r') z.f2).1.f2) ∧ Below W.heap.size W w') :=
          ⟨fun P n d W hn h1 h2 h3 => by subst hn; exact IH.out A3 c3 z.f2 P d W h1 HL3.out h2 h3 (by have := HPL.out; have := HMR.out; omega) (by have := bk_mem HMEM.out; have := HBK.out; omega)⟩
        have HT : Aside0 (Kd.C (Kd.int .i64) w (some (pad.add 1)) (m - 1) (i' :: r')) := ⟨by
          have h := Kd.C_drop (c := d) HP.out (m := 1) (by simp) (by rw [← HM.out]; exact HD.out); rw [if_neg (by have := HD.out; omega)] at h
          have hm1 : m - 1 = (i' :: r').length := by have := HMR.out; omega
          rw [hm1]; exact h⟩
        have hpa : pad.add 1 = ⟨pad.block, pad.off + 1, none⟩ := by simp [Addr.add]
        rw [hpa] at HT; have HD1 : Aside0 (m ≤ d ∧ m - 1 = (i' :: r').length) := ⟨HD.out, by have := HMR.out; omega⟩; have hmd : m ≤ d := HD.out
        have hd1 : 1 < d := by omega
        have hd2 : (d = 1) = False := by simp; omega
        have hd3 : (d == 1) = false := by simp; omega
        go_wp2_with fail
        go_region_with (go_at_call 87; refine (HIH.out _ (m - 1) (d - 1) _ HD1.out.2 (Kd.C_below HR3.out (below_drew HBB1.out)) (Kd.C_below HT.out (below_drew HBB1.out)) (by have := HD1.out; omega)).mono ?_; rintro e w3 ⟨A', c', rfl, hl', hC', hb3⟩; have HO3 := Aside0.mk ((hb3.block _ (Array.getElem?_eq_some_iff.1 HO1.out).1).trans HO1.out); have HL' := Aside0.mk hl'; have HC' := Aside0.mk hC'; have HB3 := Aside0.mk (q12 (below_drew HBB1.out) hb3); have f0 : w3.frozen? ⟨w.heap.size, 0, none⟩ = false := q11 HO3.out 0; have f1 : w3.frozen? ⟨w.heap.size, 1, none⟩ = false := q11 HO3.out 1; have f2 : w3.frozen? ⟨w.heap.size, 2, none⟩ = false := q11 HO3.out 2; have x0 : w3.cell? ⟨w.heap.size, 0, none⟩ = some (.int .i64 0) := (q4 HO3.out 0).trans rfl; have x1 : w3.cell? ⟨w.heap.size, 1, none⟩ = some (.string ⟨#[]⟩) := (q4 HO3.out 1).trans rfl; have x2 : w3.cell? ⟨w.heap.size, 2, none⟩ = some (.slice none 0 0) := (q4 HO3.out 2).trans rfl; clear hl' hC' hb3)
        go_wp2_with fail
        all_goals
          refine bodyPost_ret (rat_results (b := w.heap.size) rfl rfl ((q4 (blk3 HO3.out) 0).trans rfl) ((q4 (blk3 HO3.out) 1).trans rfl) ((q4 (blk3 HO3.out) 2).trans rfl)) rfl ?_; rw [HR.out]; exact ⟨A', c', rfl, HL'.out, fun W' hW => HC'.out _ (fun k hk => (hW k (by have := HBB1.out.size; simp at hk; omega)).trans (oth3 (by have := HBB1.out.size; simp at hk; omega))), below3 HB3.out⟩
    · have HR : Aside0 (rAR (i :: r) l = (z42, false)) := ⟨by unfold rAR; rw [rA, dif_neg hin]⟩
      have hout : ((i : Int) < 0) ∨ (i : Int) ≥ (l.length : Int) := by omega
      by_cases hi0 : i < 0
      · have e1 : decide ((i : Int) < 0) = true := decide_eq_true hi0; clear hin hout
        go_enter Try.func87, Try.ntmps87
        go_upto_region 1 with fail
        rw [HW0.out]
        go_wp2_with fail
        refine bodyPost_ret (rat_results (b := w.heap.size) rfl rfl ((q4 (blk3 HN0.out) 0).trans rfl) ((q4 (blk3 HN0.out) 1).trans rfl) ((q4 (blk3 HN0.out) 2).trans rfl)) rfl ?_; rw [HR.out]; exact ⟨none, 0, rfl, Nat.le_refl _, fun _ _ => Kd.C_nil _ _, below3 HB0.out⟩
      · have e1 : decide ((i : Int) < 0) = false := decide_eq_false hi0; have e2 : decide ((i : Int) ≥ (l.length : Int)) = true := decide_eq_true (by omega); clear hin hout
        go_enter Try.func87, Try.ntmps87
        go_upto_region 1 with fail
        rw [HW0.out]
        go_wp2_with fail
        refine bodyPost_ret (rat_results (b := w.heap.size) rfl rfl ((q4 (blk3 HN0.out) 0).trans rfl) ((q4 (blk3 HN0.out) 1).trans rfl) ((q4 (blk3 HN0.out) 2).trans rfl)) rfl ?_; rw [HR.out]; exact ⟨none, 0, rfl, Nat.le_refl _, fun _ _ => Kd.C_nil _ _, below3 HB0.out⟩
end Go.Proofs.Ytjhjhhibbmligaa.TE
end
