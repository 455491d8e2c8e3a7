/- A range over a function whose body leaves at once. -/
import Derived.Test.YtjhjhhibbmligaaMTELi
import Derived.Test.YtjhjhhibbmligaaMTENd
import Derived.Test.YtjhjhhibbmligaaMTEParts3
import Derived.Test.YtjhjhhibbmligaaMTEPa
import Derived.Test.YtjhjhhibbmligaaMTEx11
import Derived.Test.YtjhjhhibbmligaaMTEBa
import Derived.OwnWalk
import Derived.Deep.LoopGhost
import Derived.Test.YtjhjhhibbmligaaMWMore
import Derived.Lib.AppendZerosOnto
import Derived.WalkSpells
import Derived.RangeFuncNested
section
namespace Go.Proofs.Ytjhjhhibbmligaa.TE
open Go.RowKit Go.Shelf Go.Proofs.YtjhjhhibbmligaaW.PrintWords Go.Proofs.YtjhjhhibbmligaaW.PrintLast Go.Proofs.YtjhjhhibbmligaaW.PrintMore Go.Proofs.Ytjhjhhibbmligaa.Evs
set_option linter.unusedVariables false
set_option linter.unusedSimpArgs false
structure Pb (W w : World) (va vb : Value) (g M : Nat) (ok : Nat → Prop) (a b : List Tm) : Prop where
  ex : ∀ NA NB T U, NA ≤ 1048576 → NB ≤ 1048576 → Ex w g M NA NB T U ok
  pa : PL w ok va a 0 []
  pb : PL w ok vb b 0 []
  kn : ∀ NA NB T U, Kn M NA NB T U w
  be : Below W.heap.size W w
  hM : W.heap.size ≤ M
set_option maxRecDepth 100000 in
set_option maxHeartbeats 4000000 in
theorem problem.calls (A1 A2 : Option Addr) (c1 c2 : Nat) (a b : List Tm) (W : World) (ha : Kd.C k42 W A1 a.length a) (hb : Kd.C k42 W A2 b.length b) (hc1 : a.length ≤ c1) (hc2 : b.length ≤ c2) (hla : (flat a).length ≤ 500000) (hlb : (flat b).length ≤ 500000) :
    Calls Try.prog 89 #[.slice A1 a.length c1, .slice A2 b.length c2] W fun e W' => ∃ va vb g M ok, e = .returned (.tuple #[va, vb, .pointer (some ⟨g, 0, none⟩)]) ∧ Pb W W' va vb g M ok a b := by
  have hmm := @run_makeMap Try.prog; obtain ⟨C0, hC0⟩ : ∃ C : Obj, C = .cells #[.int .i64 0] 3 := ⟨_, rfl⟩; have hb1 : Below W.heap.size W ((W.alloc C0).alloc C0) := ((Below.refl _ W).alloc (Nat.le_refl _) _).alloc (by simp) _; have hk1 : ((W.alloc C0).alloc C0).heap[W.heap.size]? = some C0 := (Below.heap_alloc _ _ _ (by simp)).trans (World.alloc_heap_new W _)
  have hk2 : ((W.alloc C0).alloc C0).heap[W.heap.size + 1]? = some C0 := by have := World.alloc_heap_new (W.alloc C0) C0; rwa [World.size_alloc] at this
  have hz1 : ((W.alloc C0).alloc C0).heap.size = W.heap.size + 2 := by simp
  obtain ⟨W1, hW1⟩ : ∃ W1, W1 = (W.alloc C0).alloc C0 := ⟨_, rfl⟩; rw [← hW1] at hb1 hk1 hk2 hz1; rw [hC0] at hk1 hk2; have hcall := nodes.calls W (SizeOf.sizeOf a) A1 c1 a (.slice none 0 0) [] W.heap.size 0 W1 (Nat.le_refl _) ha hc1 hb1 (Nat.le_refl _) hk1 (World.ownsRow_nil _ _ _ _) (by simp; omega) (by simp [Value.ownBlock]); have HCALL := Aside0.mk hcall; have HWW : Aside0 (W1 = (W.alloc (.cells #[.int .i64 0] 3)).alloc (.cells #[.int .i64 0] 3)) := ⟨by rw [hW1, hC0]⟩; have HHB := Aside0.mk hb; have HB1 := Aside0.mk hb1; have HK2 := Aside0.mk hk2; have HZ1 := Aside0.mk hz1; clear hcall hW1 ha hb hb1 hk1 hk2 hC0 hz1
  go_enter Try.func89, Try.ntmps89
  go_wp2_with fail
  rw [← HWW.out]; refine HCALL.out.mono ?_; rintro e w2 ⟨v1, vs1, rfl, ho1, hl1, _, hf1⟩; obtain ⟨B1, d1, rfl⟩ := own_formN ho1; have hz1 := HZ1.out; have hb2 : Below W.heap.size W w2 := fr_below0 HB1.out hf1 (fun k e => by omega); have hm2 : w2.heap[W.heap.size + 1]? = some (.cells #[.int .i64 0] 3 (0, 0)) := (hf1.block _ (by omega) (by omega)).trans HK2.out; have hcall := nodes.calls W (SizeOf.sizeOf b) A2 c2 b (.slice none 0 0) [] (W.heap.size + 1) 0 w2 (Nat.le_refl _) HHB.out hc2 hb2 (by omega) hm2 (World.ownsRow_nil _ _ _ _) (by simp; omega) (by simp [Value.ownBlock]); have HCALL2 := Aside0.mk hcall; have HO1 := Aside0.mk ho1; have HL1 := Aside0.mk hl1; have HF1 := Aside0.mk hf1; have HB2 := Aside0.mk hb2; have HM2 := Aside0.mk hm2; clear hcall ho1 hl1 hf1 hb2 hm2 HCALL hz1
  go_wp2_with fail
  refine HCALL2.out.mono ?_; rintro e w5 ⟨v2, vs2, rfl, ho2, hl2, _, hf2⟩; obtain ⟨B2, d2, rfl⟩ := own_formN ho2; have HO2 := Aside0.mk ho2; have HL2 := Aside0.mk hl2; have HF2 := Aside0.mk hf2; clear ho2 hl2 hf2 HCALL2
  go_wp2_with fail
  have hz1 := HZ1.out; have hz2 := HF1.out.size; have hz5 := HF2.out.size; have hb5 : Below W.heap.size W w5 := fr_below0 HB2.out HF2.out (fun k e => by omega); obtain ⟨w7, hw7⟩ : ∃ w7, w7 = (w5.alloc (.map #[] 0)).alloc (.cells #[.map (some w5.heap.size)] 167) := ⟨_, rfl⟩
  have hb7 : Below w5.heap.size w5 w7 := by rw [hw7]; exact ((Below.refl _ w5).alloc (Nat.le_refl _) _).alloc (by simp) _
  have hm7 : w7.heap[w5.heap.size]? = some (.map #[] 0) := by rw [hw7]; exact (Below.heap_alloc _ _ _ (by simp)).trans (MapKept.heap_alloc w5 (.map #[] 0)).1
  have he7 : w7.heap[w5.heap.size + 1]? = some (.cells #[.map (some w5.heap.size)] 167 (0, 0)) := by
    rw [hw7]; have := World.alloc_heap_new (w5.alloc (.map #[] 0)) (.cells #[.map (some w5.heap.size)] 167)
    rwa [World.size_alloc] at this
  rw [← hw7]
  have hkn : ∀ NA NB T U, Kn w5.heap.size NA NB T U w7 := fun NA NB T U => by
    rw [hw7]; exact (Kn.made w5 NA NB T U).below ((Below.refl _ _).alloc (Nat.le_refl _) _)
  have ho1 := HO1.out; have ho2 := HO2.out
  have h17 : ∀ k, W1.heap.size ≤ k → k < w2.heap.size → w7.heap[k]? = w2.heap[k]? := fun k h1 h2 => (hb7.block k (by omega)).trans (HF2.out.block k h2 (by omega))
  have hPb : Pb W w7 (.slice B1 a.length d1) (.slice B2 b.length d2) (w5.heap.size + 1) w5.heap.size (fun k => W1.heap.size ≤ k ∧ k < w5.heap.size) a b := by
    refine ⟨fun NA NB T U hA hB => ⟨he7, blk_lt hm7, by omega, fun k hk => by omega, hA, hB⟩, ⟨vs1, ?_, ?_, ?_⟩, ⟨vs2, ?_, ?_, ?_⟩, hkn, hb5.trans (hb7.mono (by omega)), by omega⟩
    · exact own_same (own_base0 ho1) (fun k e => h17 k (own_ltA ho1 k e).2 (own_ltA ho1 k e).1)
    · exact fun k e => by have := own_ltA ho1 k e; omega
    · exact HL1.out.keep (fun k hk hl => h17 k hk.1 hl) (fun k hk hl => by have := hk.1; omega)
    · exact own_same (own_base0 ho2) (fun k e => hb7.block k (own_ltA ho2 k e).1)
    · exact fun k e => by have := own_ltA ho2 k e; omega
    · exact HL2.out.keep (fun k hk hl => hb7.block k hl) (fun k hk hl => by have := hk.1; omega)
  have HPB := Aside0.mk hPb; clear hPb hkn he7 hm7 hb7 hb5 hw7 h17 ho1 ho2 hz1 hz2 hz5
  go_wp2
  go_ret3
  exact ⟨_, _, _, _, _, rfl, HPB.out⟩
def tabT (a : List Tm) (i : Nat) : Tm := (flat a).getD i ⟨0, ⟨#[]⟩, []⟩
theorem tab_sub (a : List Tm) : SubL (tabT a) (flat a).length 0 a := fun q h => ⟨by omega, by unfold tabT; rw [Nat.zero_add, List.getD_eq_getElem?_getD, List.getElem?_eq_getElem h]; rfl⟩
theorem Pb.st {W w : World} {va vb : Value} {g M : Nat} {ok : Nat → Prop} {a b : List Tm} (h : Pb W w va vb g M ok a b) (NA NB : Nat) (T U : Nat → Tm) : St w M NA NB T U w := ⟨Fr.refl _ _, h.kn _ _ _ _⟩
theorem Pb.frame {W w w' : World} {va vb : Value} {g M : Nat} {ok : Nat → Prop} {a b : List Tm} (h : Pb W w va vb g M ok a b) (hf : Fr w w' (fun i => i = M)) : Below W.heap.size W w' := fr_below0 h.be hf (fun k e => by have := h.hM; omega)
set_option maxRecDepth 100000 in
set_option maxHeartbeats 4000000 in
theorem In.calls (A1 A2 : Option Addr) (c1 c2 : Nat) (a b : List Tm) (W : World) (ha : Kd.C k42 W A1 a.length a) (hb : Kd.C k42 W A2 b.length b) (hc1 : a.length ≤ c1) (hc2 : b.length ≤ c2) (hla : (flat a).length ≤ 500000) (hlb : (flat b).length ≤ 500000) :
    Calls Try.prog 25 #[.slice A1 a.length c1, .slice A2 b.length c2] W fun e W' => e = .returned (.bool (embL a b)) ∧ Below W.heap.size W W' := by
  have hcall := problem.calls A1 A2 c1 c2 a b W ha hb hc1 hc2 hla hlb; have HCALL := Aside0.mk hcall; clear hcall ha hb
  go_enter Try.func25, Try.ntmps25
  go_wp2_with fail
  refine HCALL.out.mono ?_; rintro e w2 ⟨va, vb, g, M, ok, rfl, hP⟩; have hcall := lists_all (hP.ex (flat a).length (flat b).length (tabT a) (tabT b) (by omega) (by omega)) (SizeOf.sizeOf a + SizeOf.sizeOf b) va vb a b 0 0 [] [] w2 hP.pa hP.pb (tab_sub a) (tab_sub b) (by omega) (hP.st _ _ _ _); have HP := Aside0.mk hP; have HC := Aside0.mk hcall; clear hcall hP HCALL
  go_wp2_with fail
  refine HC.out.mono ?_; rintro e w3 ⟨rfl, hs, hf⟩; have HF := Aside0.mk hf; clear hs hf HC
  go_wp2_with fail
  go_ret; exact ⟨rfl, HP.out.frame HF.out⟩
end Go.Proofs.Ytjhjhhibbmligaa.TE
end
section
namespace Go.Proofs.Ytjhjhhibbmligaa.TE
open Go.RowKit Go.Shelf Go.Proofs.YtjhjhhibbmligaaW.PrintWords Go.Proofs.YtjhjhhibbmligaaW.PrintLast Go.Proofs.YtjhjhhibbmligaaW.PrintMore Go.Proofs.Ytjhjhhibbmligaa.Evs
set_option linter.unusedVariables false
set_option linter.unusedSimpArgs false
theorem flat_ea : (flat ea).length ≤ 500000 := by unfold ea; simp [flat]
theorem flat_eb : (flat eb).length ≤ 500000 := by unfold eb; simp [flat]
theorem str_row (w : World) (vs : List ByteArray) (h : 0 < vs.length) (hm : vs.length ≤ 1048576) : Kd.C Kd.string (w.alloc (.cells (vs.map Value.string).toArray 9)) (some ⟨w.heap.size, 0, none⟩) vs.length vs := by
  refine ⟨rfl, by omega, fun _ => ⟨_, rfl, fun j p hp => ⟨[.string p], rfl, rfl, fun i u hu => ?_⟩⟩⟩; have hjl : j < vs.length := (List.getElem?_eq_some_iff.1 hp).1; rw [add_plain]; refine (q4 (World.alloc_heap_new w _) _).trans ?_
  match i, hu with
  | 0, hu =>
    obtain rfl : Value.string p = u := by simpa using hu
    have hs : Kd.string.sz = 1 := rfl; rw [hs, Nat.mul_one, Nat.add_zero]; simp [hp]
set_option maxRecDepth 100000 in
set_option maxHeartbeats 4000000 in
theorem awakeE.calls (W : World) : Calls Try.prog 16 #[] W fun e W' => e = .returned (.bool true) ∧ Below W.heap.size W W' := by
  have hp1 := fun W => Parse.calls ex1 W
  have hp2 := fun W => Parse.calls ex2 W
  rw [parse_ex1] at hp1; rw [parse_ex2] at hp2; have HP1 := Aside0.mk hp1; have HP2 := Aside0.mk hp2; clear hp1 hp2
  go_enter Try.func16, Try.ntmps16
  go_wp2_with fail
  refine (HP1.out _).mono ?_; rintro e w1 ⟨A1, c1, rfl, hc1, hC1, hb1⟩; have HC1 := Aside0.mk hC1; have HB1 := Aside0.mk hb1; have HL1 := Aside0.mk hc1; clear hC1 hb1 hc1 HP1
  go_wp2_with fail
  refine (HP2.out _).mono ?_; rintro e w2 ⟨A2, c2, rfl, hc2, hC2, hb2⟩; have HC2 := Aside0.mk hC2; have HB2 := Aside0.mk hb2; have HL2 := Aside0.mk hc2; clear hC2 hb2 hc2 HP2
  go_wp2_with fail
  have s1 := str_row w2 pa1 (by decide) (by decide); have s2 := str_row (w2.alloc (.cells (pa1.map Value.string).toArray 9)) pb1 (by decide) (by decide); have hb3 : Below w2.heap.size w2 ((w2.alloc (.cells (pa1.map Value.string).toArray 9)).alloc (.cells (pb1.map Value.string).toArray 9)) := ((Below.refl _ _).alloc (Nat.le_refl _) _).alloc (by simp) _; obtain ⟨w3, hw3⟩ : ∃ w3, w3 = (w2.alloc (.cells (pa1.map Value.string).toArray 9)).alloc (.cells (pb1.map Value.string).toArray 9) := ⟨_, rfl⟩; have hcall := Prefix.calls (some ⟨w2.heap.size, 0, none⟩) (some ⟨w2.heap.size + 1, 0, none⟩) 2 3 pa1 pb1 w3 (by rw [hw3]; exact Kd.C_below s1 ((Below.refl _ _).alloc (Nat.le_refl _) _)) (by decide) (by rw [hw3]; rw [World.size_alloc] at s2; exact s2) (by decide) (by decide); rw [prefix_ex] at hcall; rw [← hw3] at hb3; have HB3 := Aside0.mk hb3; have HW3 := Aside0.mk hw3; have HCALL := Aside0.mk hcall; clear s1 s2 hb3 hw3 hcall
  change Calls _ _ _ ((w2.alloc (.cells (pa1.map Value.string).toArray 9)).alloc (.cells (pb1.map Value.string).toArray 9)) _
  rw [← HW3.out]; refine HCALL.out.mono ?_; rintro e w4 ⟨rfl, n4, rfl⟩; have hb4 : Below w2.heap.size w2 (w3.drewN n4) := ⟨HB3.out.os, HB3.out.tape, HB3.out.output, HB3.out.size, HB3.out.block⟩; have h1 := Kd.C_below (Kd.C_below HC1.out HB2.out) hb4; have h2 := Kd.C_below HC2.out hb4; obtain ⟨w4, hw4⟩ : ∃ w4, w4 = w3.drewN n4 := ⟨_, rfl⟩; rw [← hw4] at hb4 h1 h2 ⊢; have hI1 := In.calls A1 A2 c1 c2 ea eb w4 h1 h2 HL1.out HL2.out flat_ea flat_eb; rw [emb_ex1] at hI1; have HB4 := Aside0.mk hb4; have HI1 := Aside0.mk hI1; have H1 := Aside0.mk h1; have H2 := Aside0.mk h2; clear hb4 h1 h2 hw4 hI1
  go_wp2_with fail
  refine HI1.out.mono ?_; rintro e w5 ⟨rfl, hb5⟩; have hI2 := In.calls A2 A1 c2 c1 eb ea w5 (Kd.C_below H2.out hb5) (Kd.C_below H1.out hb5) HL2.out HL1.out flat_eb flat_ea; rw [emb_ex2] at hI2; have HB5 := Aside0.mk hb5; have HI2 := Aside0.mk hI2; clear hb5 hI2
  go_wp2_with fail
  refine HI2.out.mono ?_; rintro e w6 ⟨rfl, hb6⟩; have HB6 := Aside0.mk (q12 HB1.out (q12 (q12 HB2.out HB4.out) (q12 HB5.out hb6))); clear hb6
  go_wp2_with fail
  go_ret; exact ⟨rfl, HB6.out⟩
end Go.Proofs.Ytjhjhhibbmligaa.TE
end
section
namespace Go.Proofs.Ytjhjhhibbmligaa.TE
open Go.RowKit Go.Shelf Go.Proofs.YtjhjhhibbmligaaW.PrintWords Go.Proofs.YtjhjhhibbmligaaW.PrintLast Go.Proofs.YtjhjhhibbmligaaW.PrintMore Go.Proofs.Ytjhjhhibbmligaa.Evs
set_option linter.unusedVariables false
set_option linter.unusedSimpArgs false
theorem below3' {B b : Nat} {w W : World} {x y z : Value} (h : Below B w W) (hb : B ≤ b) : Below B w (((W.setCell ⟨b, 0, none⟩ x).setCell ⟨b, 1, none⟩ y).setCell ⟨b, 2, none⟩ z) :=
  ((h.setCell (p := ⟨b, 0, none⟩) hb _).setCell (p := ⟨b, 1, none⟩) hb _).setCell (p := ⟨b, 2, none⟩) hb _
theorem oth3 {W : World} {b g : Nat} {x y z : Value} (h : g ≠ b) : (((W.setCell ⟨b, 0, none⟩ x).setCell ⟨b, 1, none⟩ y).setCell ⟨b, 2, none⟩ z).heap[g]? = W.heap[g]? := by
  rw [Below.heap_setCell _ ⟨b, 2, none⟩ _ _ h, Below.heap_setCell _ ⟨b, 1, none⟩ _ _ h, Below.heap_setCell _ ⟨b, 0, none⟩ _ _ h]
end Go.Proofs.Ytjhjhhibbmligaa.TE
end
section
namespace Go.Proofs.Ytjhjhhibbmligaa.TE
open Go.RowKit Go.Shelf Go.Proofs.YtjhjhhibbmligaaW.PrintWords Go.Proofs.YtjhjhhibbmligaaW.PrintLast Go.Proofs.YtjhjhhibbmligaaW.PrintMore Go.Proofs.Ytjhjhhibbmligaa.Evs
set_option linter.unusedVariables false
set_option linter.unusedSimpArgs false
end Go.Proofs.Ytjhjhhibbmligaa.TE
end
section
namespace Go.Proofs.Ytjhjhhibbmligaa.TE
open Go.RowKit Go.Shelf Go.Proofs.YtjhjhhibbmligaaW.PrintWords Go.Proofs.YtjhjhhibbmligaaW.PrintLast Go.Proofs.YtjhjhhibbmligaaW.PrintMore Go.Proofs.Ytjhjhhibbmligaa.Evs
set_option linter.unusedVariables false
set_option linter.unusedSimpArgs false
def OT (W : World) : Nat → List Tm → Value → Nat → Nat → Prop
  | 0, l, v, _, _ => l = [] ∧ ∃ A c, v = .slice A 0 c
  | n + 1, l, v, lo, hi => (l = [] ∧ ∃ A c, v = .slice A 0 c) ∨ ∃ (b c : Nat) (cs : Array Value) (f : Nat → Nat), v = .slice (some ⟨b, 0, none⟩) l.length c ∧ l.length ≤ c ∧ lo ≤ b ∧ b < f 0 ∧ f l.length ≤ hi ∧ (∀ j, j < l.length → f j ≤ f (j + 1)) ∧
      W.heap[b]? = some (.cells cs 42 (0, 0)) ∧ ∀ j x, l[j]? = some x → ∃ u, cs[j * 3]? = some (.int .i64 x.f0) ∧ cs[j * 3 + 1]? = some (.string x.f1) ∧ cs[j * 3 + 2]? = some u ∧ OT W n x.f2 u (f j) (f (j + 1))
theorem mono_le {f : Nat → Nat} {n : Nat} (h : ∀ j, j < n → f j ≤ f (j + 1)) : ∀ j k, j ≤ k → k ≤ n → f j ≤ f k := by
  intro j k hjk
  induction k with
  | zero => intro _; obtain rfl : j = 0 := by omega
            exact Nat.le_refl _
  | succ k ih =>
    intro hk
    rcases Nat.lt_or_ge j (k + 1) with hj | hj
    · exact Nat.le_trans (ih (by omega) (by omega)) (h k (by omega))
    · obtain rfl : j = k + 1 := by omega
      exact Nat.le_refl _
theorem idx_lt {α : Type} {l : List α} {j : Nat} {x : α} (h : l[j]? = some x) : j < l.length := (List.getElem?_eq_some_iff.1 h).1
theorem OT.frame {W W' : World} : ∀ (n : Nat) (l : List Tm) (v : Value) (lo hi : Nat), OT W n l v lo hi → (∀ k, lo ≤ k → k < hi → W'.heap[k]? = W.heap[k]?) → OT W' n l v lo hi
  | 0, l, v, lo, hi, h, _ => h
  | n + 1, l, v, lo, hi, h, hk => by
    rcases h with h | ⟨b, c, cs, f, h1, h2, h3, h4, h5, h6, h7, h8⟩
    · exact .inl h
    · have hm := mono_le h6; have hb := hm 0 l.length (Nat.zero_le _) (Nat.le_refl _); refine .inr ⟨b, c, cs, f, h1, h2, h3, h4, h5, h6, (hk b h3 (by omega)).trans h7, fun j x hj => ?_⟩; obtain ⟨u, a1, a2, a3, a4⟩ := h8 j x hj; have hl := idx_lt hj; have e1 := hm 0 j (Nat.zero_le _) (by omega); have e2 := hm (j + 1) l.length (by omega) (Nat.le_refl _); exact ⟨u, a1, a2, a3, OT.frame n _ _ _ _ a4 (fun k g1 g2 => hk k (by omega) (by omega))⟩
theorem OT.mono {W : World} : ∀ {n : Nat} {l : List Tm} {v : Value} {lo hi lo' hi' : Nat}, OT W n l v lo hi → lo' ≤ lo → hi ≤ hi' → OT W n l v lo' hi'
  | 0, l, v, lo, hi, lo', hi', h, _, _ => h
  | n + 1, l, v, lo, hi, lo', hi', h, h1, h2 => by
    rcases h with h | ⟨b, c, cs, f, a1, a2, a3, a4, a5, a6, a7, a8⟩
    · exact .inl h
    · exact .inr ⟨b, c, cs, f, a1, a2, by omega, a4, by omega, a6, a7, a8⟩
theorem OT.fuel {W : World} : ∀ {n m : Nat} {l : List Tm} {v : Value} {lo hi : Nat}, OT W n l v lo hi → n ≤ m → OT W m l v lo hi
  | 0, 0, l, v, lo, hi, h, _ => h
  | 0, m + 1, l, v, lo, hi, h, _ => .inl h
  | n + 1, 0, l, v, lo, hi, h, hm => absurd hm (by omega)
  | n + 1, m + 1, l, v, lo, hi, h, hm => by
    rcases h with h | ⟨b, c, cs, f, a1, a2, a3, a4, a5, a6, a7, a8⟩
    · exact .inl h
    · refine .inr ⟨b, c, cs, f, a1, a2, a3, a4, a5, a6, a7, fun j x hj => ?_⟩; obtain ⟨u, b1, b2, b3, b4⟩ := a8 j x hj; exact ⟨u, b1, b2, b3, OT.fuel b4 (by omega)⟩
theorem bk_kid {l : List Tm} {x : Tm} (h : x ∈ l) {B : Nat} (hb : bk42s l ≤ B) : bk42s x.f2 ≤ B ∧ x.f1.size ≤ B := by
  have := bk_mem h
  omega
theorem bk_len' {l : List Tm} {B : Nat} (hb : bk42s l ≤ B) : l.length ≤ B := by
  have := bk_len l
  omega
theorem OT.reads {W : World} : ∀ {n : Nat} {l : List Tm} {v : Value} {lo hi : Nat}, OT W n l v lo hi → bk42s l ≤ 1048576 → ∃ A c, v = .slice A l.length c ∧ l.length ≤ c ∧ Kd.C k42 W A l.length l
  | 0, l, v, lo, hi, h, _ => by
    obtain ⟨rfl, A, c, rfl⟩ := h; exact ⟨A, c, rfl, Nat.zero_le _, rfl, by decide, fun hp => absurd hp (by decide)⟩
  | n + 1, l, v, lo, hi, h, hb => by
    rcases h with ⟨rfl, A, c, rfl⟩ | ⟨b, c, cs, f, a1, a2, a3, a4, a5, a6, a7, a8⟩
    · exact ⟨A, c, rfl, Nat.zero_le _, rfl, by decide, fun hp => absurd hp (by decide)⟩
    · refine ⟨some ⟨b, 0, none⟩, c, a1, a2, rfl, by have := bk_len' hb; omega, fun hp => ⟨_, rfl, fun j x hj => ?_⟩⟩; obtain ⟨u, b1, b2, b3, b4⟩ := a8 j x hj; have hmem : x ∈ l := List.mem_of_getElem? hj; obtain ⟨A2, c2, rfl, l2, g2⟩ := OT.reads b4 (bk_kid hmem hb).1; refine ⟨[.int .i64 x.f0, .string x.f1, .slice A2 x.f2.length c2], rfl, k42_mk W x l2 g2, fun i u hu => ?_⟩; rw [add_plain]; refine (q4 a7 _).trans ?_
      match i, hu with
      | 0, hu => exact b1.trans hu
      | 1, hu => exact b2.trans hu
      | 2, hu => exact b3.trans hu
theorem info_term' : (Try.prog.info? 42).map (fun i => (i.zero, i.size, i.bytes)) = some (some (.agg #[.int .i64 0, .string ⟨#[]⟩, .slice none 0 0]), 3, 48) := by kernel_rfl
theorem set_same {cs : Array Value} {i j : Nat} {u v : Value} (h : cs[i]? = some u) (hij : j = i) : (cs.setIfInBounds j v)[i]? = some v := by
  subst hij; have hl := (Array.getElem?_eq_some_iff.1 h).1; simp [hl]
theorem set_other {cs : Array Value} {i j : Nat} {v : Value} (hij : j ≠ i) : (cs.setIfInBounds j v)[i]? = cs[i]? := by
  simp [Array.getElem?_setIfInBounds, hij]
end Go.Proofs.Ytjhjhhibbmligaa.TE
end
section
namespace Go.Proofs.Ytjhjhhibbmligaa.TE
open Go.RowKit Go.Shelf Go.Proofs.YtjhjhhibbmligaaW.PrintWords Go.Proofs.YtjhjhhibbmligaaW.PrintLast Go.Proofs.YtjhjhhibbmligaaW.PrintMore Go.Proofs.Ytjhjhhibbmligaa.Evs
set_option linter.unusedVariables false
set_option linter.unusedSimpArgs false
end Go.Proofs.Ytjhjhhibbmligaa.TE
end
section
namespace Go.Proofs.Ytjhjhhibbmligaa.TE
open Go.RowKit Go.Shelf Go.Proofs.YtjhjhhibbmligaaW.PrintWords Go.Proofs.YtjhjhhibbmligaaW.PrintLast Go.Proofs.YtjhjhhibbmligaaW.PrintMore
set_option linter.unusedVariables false
set_option linter.unusedSimpArgs false
inductive E : List Tm → List Tm → Prop
  | nil (us : List Tm) : E [] us
  | skip {ts us : List Tm} (u : Tm) : E ts us → E ts (u :: us)
  | cons {t u : Tm} {ts us : List Tm} : sameC t u = true → E t.f2 u.f2 → E ts us → E (t :: ts) (u :: us)
  | dive {t u : Tm} {ts us : List Tm} : E [t] u.f2 → E ts us → E (t :: ts) (u :: us)
theorem embA_eq (t : Tm) : ∀ us, embA t us = embL [t] us
  | [] => by rw [embA, embL_nil]; rfl
  | u :: r => by
    rw [embA, embL, embA_eq t r]
    cases h : emb t u with
    | true => rw [if_pos rfl, embL]; rfl
    | false => rw [if_neg (by decide)]; rfl
theorem emb_eq (t u : Tm) : emb t u = ((sameC t u && embL t.f2 u.f2) || embL [t] u.f2) := by rw [emb, cpl, embA_eq]
theorem E_drop : ∀ {us : List Tm} {t : Tm} {ts : List Tm}, E (t :: ts) us → E ts us := by
  intro us
  induction us with
  | nil => intro t ts h; cases h
  | cons u us ih =>
    intro t ts h
    cases h with
    | skip _ h => exact .skip u (ih h)
    | cons h1 h2 h3 => exact .skip u h3
    | dive h1 h2 => exact .skip u h2
theorem E_tail {us : List Tm} {u t : Tm} {ts : List Tm} (h : E (t :: ts) (u :: us)) : E ts us := by
  cases h with
  | skip _ h => exact E_drop h
  | cons h1 h2 h3 => exact h3
  | dive h1 h2 => exact h2
theorem embL_iff : ∀ (k : Nat) (ts us : List Tm), SizeOf.sizeOf ts + SizeOf.sizeOf us ≤ k → (embL ts us = true ↔ E ts us) := by
  intro k
  induction k with
  | zero => intro ts us h; cases ts <;> cases us <;> simp at h
  | succ k ih =>
    intro ts us h
    cases ts with
    | nil => rw [embL]; exact ⟨fun _ => .nil _, fun _ => rfl⟩
    | cons t ts =>
      cases us with
      | nil => rw [embL_nil]; exact ⟨fun h => by simp at h, fun h => by cases h⟩
      | cons u us =>
        have h1 : SizeOf.sizeOf t.f2 < SizeOf.sizeOf t := by cases t; simp; omega
        have h2 : SizeOf.sizeOf u.f2 < SizeOf.sizeOf u := by cases u; simp; omega
        simp only [List.cons.sizeOf_spec] at h; have i1 := ih t.f2 u.f2 (by omega); have i2 := ih [t] u.f2 (by simp only [List.cons.sizeOf_spec, List.nil.sizeOf_spec]; omega); have i3 := ih ts us (by omega); have i4 := ih (t :: ts) us (by simp only [List.cons.sizeOf_spec]; omega)
        have he : emb t u = true ↔ (sameC t u = true ∧ E t.f2 u.f2) ∨ E [t] u.f2 := by
          rw [emb_eq, Bool.or_eq_true, Bool.and_eq_true, i1, i2]
        rw [embL]
        by_cases c : emb t u = true
        · rw [if_pos c, i3]; refine ⟨fun h => ?_, E_tail⟩
          rcases he.1 c with ⟨a, b⟩ | a
          · exact .cons a b h
          · exact .dive a h
        · rw [if_neg c, i4]; refine ⟨.skip u, fun h => ?_⟩
          cases h with
          | skip _ h => exact h
          | cons a b d => exact absurd (he.2 (.inl ⟨a, b⟩)) c
          | dive a d => exact absurd (he.2 (.inr a)) c
theorem embL_E {ts us : List Tm} : embL ts us = true ↔ E ts us := embL_iff _ ts us (Nat.le_refl _)
theorem flat_co (t : Tm) (r : List Tm) : (flat (t :: r)).length = 1 + (flat t.f2).length + (flat r).length := by rw [flat_cons]; simp; omega
end Go.Proofs.Ytjhjhhibbmligaa.TE
end
section
namespace Go.Proofs.Ytjhjhhibbmligaa.TE
open Go.RowKit Go.Shelf Go.Proofs.YtjhjhhibbmligaaW.PrintWords Go.Proofs.YtjhjhhibbmligaaW.PrintLast Go.Proofs.YtjhjhhibbmligaaW.PrintMore Go.Proofs.Ytjhjhhibbmligaa.Evs
set_option linter.unusedVariables false
set_option linter.unusedSimpArgs false
set_option maxRecDepth 100000 in
set_option maxHeartbeats 4000000 in
theorem Flat_1.calls (A : Option Addr) (c : Nat) (l : List Tm) (w : World) (hC : Kd.C k42 w A l.length l) (hc : l.length ≤ c) (hb : bk42s l ≤ 1099511627776) :
    Calls Try.prog 88 #[.slice A l.length c] w fun e w' => (∃ b, e = .returned (.bool b)) ∧ Below w.heap.size w w' := by
  obtain ⟨k1, hk1⟩ := (size_ev hb).get; obtain ⟨N, hN⟩ : ∃ N : Int, N = ((flat l).length : Int) := ⟨_, rfl⟩; obtain ⟨D, hD⟩ : ∃ D : Int, D = dpL 0 l := ⟨_, rfl⟩; rw [← hN, ← hD] at hk1; have H := Aside0.mk (term_Size.calls k1 A c l N D w hC hc hk1); clear hC hc hb hk1 hN hD
  go_enter Try.func88, Try.ntmps88
  go_wp2_with fail
  refine H.out.mono ?_; rintro e w2 ⟨rfl, hb2⟩; have HB2 := Aside0.mk hb2; clear hb2
  go_wp2_with fail
  go_ret; exact ⟨⟨_, rfl⟩, HB2.out⟩
set_option maxRecDepth 100000 in
set_option maxHeartbeats 4000000 in
theorem IndexFlat.calls (A : Option Addr) (n c : Nat) (ls : List (List Tm)) (W : World) (hC : Kd.C (Kd.slice 42 k42) W A n ls) (hn : ls.length = n) (hc : n ≤ c) (hb : ∀ x ∈ ls, bk42s x ≤ 1099511627776) :
    Calls Try.prog 134 #[.slice A n c, .func (.func 88) #[] #[]] W fun e W' => (∃ v : Int, e = .returned (.int .i64 v)) ∧ Below W.heap.size W W' := by
  have hmax := Kd.C_max hC; have HC := Aside0.mk hC; have HN := Aside0.mk hn; have HBK := Aside0.mk hb; have hn0 : (0 : Int) ≤ (n : Int) := Int.natCast_nonneg _; clear hC hn hb
  go_enter Try.func134, Try.ntmps134
  go_wp2_with fail
  go_loopw [8] (fun i wr => ∃ (q : Nat), i = .int .i64 q ∧ q ≤ n ∧ Aside0 (Below W.heap.size W wr)) (fun i wr => n - (intOf i).toNat)
  case atStart => exact ⟨0, rfl, Nat.zero_le _, ⟨Below.refl _ _⟩⟩
  case round =>
    obtain ⟨q, rfl, hq, HBr⟩ := hrel
    by_cases hlt : q < n
    · have hql : q < ls.length := by rw [HN.out]; exact hlt
      obtain ⟨ad, rfl, hce⟩ := (HC.out.2.2) (by omega); obtain ⟨cs, hcl, ⟨A2, c2, rfl, hc2, hr2⟩, hcell⟩ := hce q ls[q] (List.getElem?_eq_getElem hql); have hmem : ls[q] ∈ ls := List.getElem_mem hql; obtain ⟨x, hx⟩ : ∃ x, ls[q] = x := ⟨_, rfl⟩; rw [hx] at hc2 hr2 hcell hmem
      have hx0 : wr.cell? (ad.add q) = some (.slice A2 x.length c2) := by
        have h0 := hcell 0 _ rfl; rw [show q * (Kd.slice 42 k42).sz + 0 = q by simp [Kd.slice]] at h0; exact (HBr.out.cell (World.block_lt_of_cell? W _ h0)).trans h0
      have HCALL := Aside0.mk (Flat_1.calls A2 c2 x wr (Kd.C_below hr2 HBr.out) hc2 (HBK.out x hmem))
      have hlb : decide ((q : Int) < (n : Int)) = true := by simp; omega
      have hq0 : (0 : Int) ≤ (q : Int) := Int.natCast_nonneg _
      have hqn : (q : Int) < (n : Int) := by omega
      clear hce hcell hx hr2 hmem
      go_wp2_with fail
      refine HCALL.out.mono ?_; clear HCALL; rintro e W1 ⟨⟨b, rfl⟩, hb1⟩; have HB1 := Aside0.mk (q12 HBr.out hb1); clear hb1
      cases b with
      | false =>
        go_wp2_with fail
        go_roundw
        case rel => exact ⟨q + 1, by go_num, by omega, HB1⟩
        case measure => simp [intOf]; omega
      | true =>
        go_wp2_with fail
        go_ret; exact ⟨⟨_, rfl⟩, HB1.out⟩
    · obtain rfl : q = n := by omega
      have hlb : decide ((q : Int) < (q : Int)) = false := by simp
      go_wp2_with fail
      go_ret; exact ⟨⟨_, rfl⟩, HBr.out⟩
set_option maxRecDepth 100000 in
set_option maxHeartbeats 4000000 in
theorem ContainsFlat.calls (A : Option Addr) (n c : Nat) (ls : List (List Tm)) (W : World) (hC : Kd.C (Kd.slice 42 k42) W A n ls) (hn : ls.length = n) (hc : n ≤ c) (hb : ∀ x ∈ ls, bk42s x ≤ 1099511627776) :
    Calls Try.prog 83 #[.slice A n c, .func (.func 88) #[] #[]] W fun e W' => (∃ b, e = .returned (.bool b)) ∧ Below W.heap.size W W' := by
  have H := Aside0.mk (IndexFlat.calls A n c ls W hC hn hc hb); clear hC hn hb
  go_enter Try.func83, Try.ntmps83
  go_wp2_with fail
  refine H.out.mono ?_; clear H; rintro e W1 ⟨⟨v, rfl⟩, hg⟩; have HG := Aside0.mk hg; clear hg
  go_wp2_with fail
  go_ret; exact ⟨⟨_, rfl⟩, HG.out⟩
set_option maxRecDepth 100000 in
set_option maxHeartbeats 4000000 in
theorem Flat.calls (most : Int) (A : Option Addr) (n c : Nat) (ls : List (List Tm)) (w : World) (hC : Kd.C (Kd.slice 42 k42) w A n ls) (hn : ls.length = n) (hc : n ≤ c) (hb : ∀ x ∈ ls, bk42s x ≤ 1099511627776) :
    Calls Try.prog 22 #[.int .i64 most, .slice A n c] w fun e w' => (∃ b, e = .returned (.bool b)) ∧ Below w.heap.size w w' := by
  have H1 := Aside0.mk (Small.calls most A n c ls w hC hn hc); have H2 := Aside0.mk (fun W hC => ContainsFlat.calls A n c ls W hC hn hc hb); have HC := Aside0.mk hC; obtain ⟨s, hs⟩ : ∃ s, s = (cntAll most ls).1 := ⟨_, rfl⟩; rw [← hs] at H1; clear hC hn hb hs
  go_enter Try.func22, Try.ntmps22
  go_wp2_with fail
  refine H1.out.mono ?_; rintro e W1 ⟨rfl, hb1⟩; have HB1 := Aside0.mk hb1; clear hb1 H1
  cases s with
  | false =>
    go_wp2_with fail
    go_ret; exact ⟨⟨_, rfl⟩, HB1.out⟩
  | true =>
    go_wp2_with fail
    refine (H2.out _ (Kd.C_below HC.out HB1.out)).mono ?_; rintro e W2 ⟨⟨b, rfl⟩, hb2⟩; have HB2 := Aside0.mk (q12 HB1.out hb2); clear hb2
    go_wp2_with fail
    go_ret; exact ⟨⟨_, rfl⟩, HB2.out⟩
end Go.Proofs.Ytjhjhhibbmligaa.TE
end
section
namespace Go.Proofs.Ytjhjhhibbmligaa.TE
open Go.RowKit Go.Shelf Go.Proofs.YtjhjhhibbmligaaW.PrintWords Go.Proofs.YtjhjhhibbmligaaW.PrintLast Go.Proofs.YtjhjhhibbmligaaW.PrintMore Go.Proofs.Ytjhjhhibbmligaa.Evs
set_option linter.unusedVariables false
set_option linter.unusedSimpArgs false
end Go.Proofs.Ytjhjhhibbmligaa.TE
end
section
namespace Go.Proofs.Ytjhjhhibbmligaa.TE
open Go.RowKit Go.Shelf Go.Proofs.YtjhjhhibbmligaaW.PrintWords Go.Proofs.YtjhjhhibbmligaaW.PrintLast Go.Proofs.YtjhjhhibbmligaaW.PrintMore Go.Proofs.Ytjhjhhibbmligaa.Evs
set_option linter.unusedVariables false
set_option linter.unusedSimpArgs false
def sub : List Int → List Tm → List Tm
  | [], l => l
  | i :: r, l => sub r (rd_T42 l i).f2
def plug : List Int → List Tm → List Tm → List Tm
  | [], _, y => y
  | i :: r, l, y => l.set i.toNat ⟨(rd_T42 l i).f0, (rd_T42 l i).f1, plug r (rd_T42 l i).f2 y⟩
theorem sub_snoc : ∀ (q : List Int) (i : Int) (l : List Tm), sub (q ++ [i]) l = (rd_T42 (sub q l) i).f2
  | [], i, l => rfl
  | j :: q, i, l => sub_snoc q i _
theorem plug_snoc : ∀ (q : List Int) (i : Int) (l y : List Tm), plug (q ++ [i]) l y = plug q l ((sub q l).set i.toNat ⟨(rd_T42 (sub q l) i).f0, (rd_T42 (sub q l) i).f1, y⟩)
  | [], i, l, y => rfl
  | j :: q, i, l, y => by
    rw [List.cons_append, plug, plug_snoc q i]; rfl
structure Foc (w1 : World) (bo : Nat) (l : List Tm) (n : Nat) (q : List Int) (g off lo hi : Nat) (u : Value) : Prop where
  blk : ∃ cs t, w1.heap[g]? = some (.cells cs t (0, 0)) ∧ cs[off]? = some u
  tree : OT w1 n (sub q l) u lo hi
  out : ¬ (lo ≤ g ∧ g < hi)
  top : hi ≤ w1.heap.size
  change : ∀ (W' : World) (A' : Option Addr) (c' : Nat) (y : List Tm), (∀ k, k < w1.heap.size → k ≠ g → ¬ (lo ≤ k ∧ k < hi) → W'.heap[k]? = w1.heap[k]?) → (∀ cs t, w1.heap[g]? = some (.cells cs t (0, 0)) → W'.heap[g]? = some (.cells (cs.setIfInBounds off (.slice A' y.length c')) t (0, 0))) →
    y.length ≤ c' → Kd.C k42 W' A' y.length y → ∃ A c, W'.cell? ⟨bo, 0, none⟩ = some (.slice A (plug q l y).length c) ∧ (plug q l y).length ≤ c ∧ Kd.C k42 W' A (plug q l y).length (plug q l y)
theorem set_self' {cs : Array Value} {i : Nat} {u : Value} (h : cs[i]? = some u) : cs.setIfInBounds i u = cs := by
  obtain ⟨hl, hv⟩ := Array.getElem?_eq_some_iff.1 h; apply Array.ext_getElem?; intro j
  by_cases hj : i = j
  · subst hj; rw [set_same h rfl, h]
  · rw [set_other hj]
theorem Foc.step {w1 : World} {bo : Nat} {l : List Tm} {n : Nat} {q : List Int} {g off lo hi : Nat} {u : Value} (h : Foc w1 bo l n q g off lo hi u) (i : Nat) (hi1 : i < (sub q l).length) (hbk : bk42s (sub q l) ≤ 1048576) :
    ∃ b c n' lo' hi' u', u = .slice (some ⟨b, 0, none⟩) (sub q l).length c ∧ (sub q l).length ≤ c ∧ lo ≤ b ∧ lo ≤ lo' ∧ Foc w1 bo l n' (q ++ [(i : Int)]) b (i * 3 + 2) lo' hi' u' := by
  obtain ⟨cs0, t0, hg1, hg2⟩ := h.blk; have ht := h.tree
  cases n with
  | zero => obtain ⟨h0, _⟩ := ht; rw [h0] at hi1; simp at hi1
  | succ n =>
    rcases ht with ⟨h0, _⟩ | ⟨b, c, cs, f, hu, hc, hlo, hlow, hhi, hmono, hrow, hall⟩
    · rw [h0] at hi1; simp at hi1
    · have hm := mono_le hmono; have hx : (sub q l)[i]? = some ((sub q l)[i]'hi1) := List.getElem?_eq_getElem hi1; obtain ⟨u', a1, a2, a3, a4⟩ := hall i _ hx
      have hrd : rd_T42 (sub q l) (i : Int) = (sub q l)[i]'hi1 := by simp [rd_T42, List.getD_eq_getElem?_getD, hx]
      have hbg : g ≠ b := fun e => h.out (by subst e; have := hm 0 (sub q l).length (Nat.zero_le _) (Nat.le_refl _); omega)
      have h00 := hm 0 i (Nat.zero_le _) (by omega); have h0n := hm (i + 1) (sub q l).length (by omega) (Nat.le_refl _); have hii := hmono i (by omega); refine ⟨b, c, n, f i, f (i + 1), u', hu, hc, by omega, by omega, ⟨⟨cs, _, hrow, a3⟩, by rw [sub_snoc, hrd]; exact a4, by omega, by have := h.top; omega, fun W' A' c' y h1 h2 h3 h4 => ?_⟩⟩; rw [plug_snoc]; have hrow' := h2 _ _ hrow
      have hlen : ∀ z : Tm, ((sub q l).set (i : Int).toNat z).length = (sub q l).length := fun z => List.length_set
      have hgsame : W'.heap[g]? = w1.heap[g]? := h1 g (blk_lt hg1) hbg (fun e => h.out (by omega)); refine h.change W' (some ⟨b, 0, none⟩) c _ (fun k hk hkg hko => h1 k hk (fun e => hko (by omega)) (fun e => hko (by omega))) (fun cs' t' hcs' => ?_) (by rw [hlen]; exact hc) ?_
      · rw [hgsame, hlen, ← hu]; rw [hg1] at hcs'
        injection hcs' with hcs'
        injection hcs' with e1 e2 e3
        subst e1; subst e2; rw [set_self' hg2]; exact hg1
      · rw [Int.toNat_natCast]; refine ⟨rfl, by rw [List.length_set]; have := bk_len (sub q l); omega, fun _ => ⟨_, rfl, fun j p hp => ?_⟩⟩; have cell : ∀ (x : Tm) (A2 : Option Addr) (c2 : Nat), (cs.setIfInBounds (i * 3 + 2) (.slice A' y.length c'))[j * 3]? = some (.int .i64 x.f0) → (cs.setIfInBounds (i * 3 + 2) (.slice A' y.length c'))[j * 3 + 1]? = some (.string x.f1) → (cs.setIfInBounds (i * 3 + 2) (.slice A' y.length c'))[j * 3 + 2]? = some (.slice A2 x.f2.length c2) → x.f2.length ≤ c2 → Kd.C k42 W' A2 x.f2.length x.f2 →
            ∃ c : List Value, c.length = k42.sz ∧ k42.K W' x c ∧ ∀ i u, c[i]? = some u → W'.cell? ((⟨b, 0, none⟩ : Addr).add (j * k42.sz + i)) = some u := fun x A2 c2 b1 b2 b3 l2 g2 => by
          refine ⟨[.int .i64 x.f0, .string x.f1, .slice A2 x.f2.length c2], rfl, k42_mk W' x l2 g2, fun m u hu => ?_⟩; rw [add_plain]; refine (q4 hrow' _).trans ?_
          match m, hu with
          | 0, hu => exact b1.trans hu
          | 1, hu => exact b2.trans hu
          | 2, hu => exact b3.trans hu
        by_cases hji : j = i
        · subst hji; rw [List.getElem?_set_self (by omega)] at hp
          injection hp with hp
          subst hp; rw [hrd]; exact cell ⟨_, _, y⟩ A' c' ((set_other (by omega)).trans a1) ((set_other (by omega)).trans a2) (set_same a3 rfl) h3 h4
        · rw [List.getElem?_set_ne (fun e => hji e.symm)] at hp; obtain ⟨v, d1, d2, d3, d4⟩ := hall j p hp; have hjl := idx_lt hp
          have hfo : ∀ k, f j ≤ k → k < f (j + 1) → W'.heap[k]? = w1.heap[k]? := fun k k1 k2 => by
            have g1 := hm 0 j (Nat.zero_le _) (by omega); have g2 := hm (j + 1) (sub q l).length (by omega) (Nat.le_refl _); have g3 := h.top; refine h1 k (by omega) (by omega) (fun e => ?_)
            rcases Nat.lt_or_ge j i with h5 | h5
            · have := hm (j + 1) i (by omega) (by omega); omega
            · have := hm (i + 1) j (by omega) (by omega); omega
          obtain ⟨A2, c2, rfl, l2, g2⟩ := OT.reads (OT.frame n _ _ _ _ d4 hfo) (by have := bk_mem (List.mem_of_getElem? hp); omega); exact cell p A2 c2 ((set_other (by omega)).trans d1) ((set_other (by omega)).trans d2) ((set_other (by omega)).trans d3) l2 g2
end Go.Proofs.Ytjhjhhibbmligaa.TE
end
section
namespace Go.Proofs.Ytjhjhhibbmligaa.TE
open Go.RowKit Go.Shelf Go.Proofs.YtjhjhhibbmligaaW.PrintWords Go.Proofs.YtjhjhhibbmligaaW.PrintLast Go.Proofs.YtjhjhhibbmligaaW.PrintMore Go.Proofs.Ytjhjhhibbmligaa.Evs
set_option linter.unusedVariables false
set_option linter.unusedSimpArgs false
end Go.Proofs.Ytjhjhhibbmligaa.TE
end
section
namespace Go.Proofs.Ytjhjhhibbmligaa.TE
open Go.RowKit Go.Shelf Go.Proofs.YtjhjhhibbmligaaW.PrintWords Go.Proofs.YtjhjhhibbmligaaW.PrintLast Go.Proofs.YtjhjhhibbmligaaW.PrintMore Go.Proofs.Ytjhjhhibbmligaa.Evs
set_option linter.unusedVariables false
set_option linter.unusedSimpArgs false
theorem rowsE3 {w : World} {A B C : Option Addr} {c d e : Nat} {l m n : List Tm} (hl : Kd.C k42 w A l.length l) (hc : l.length ≤ c) (hm : Kd.C k42 w B m.length m) (hd : m.length ≤ d) (hn : Kd.C k42 w C n.length n) (he : n.length ≤ e) :
    Kd.C (Kd.slice 42 k42) (w.alloc (.cells #[.slice A l.length c, .slice B m.length d, .slice C n.length e] 22)) (some ⟨w.heap.size, 0, none⟩) 3 [l, m, n] := by
  have hb : Below w.heap.size w (w.alloc (.cells #[.slice A l.length c, .slice B m.length d, .slice C n.length e] 22)) := (Below.refl _ _).alloc (Nat.le_refl _) _; have hk := World.alloc_heap_new w (.cells #[.slice A l.length c, .slice B m.length d, .slice C n.length e] 22); have hz : (Kd.slice 42 k42).sz = 1 := rfl; refine ⟨rfl, by decide, fun _ => ⟨_, rfl, fun j p hp => ?_⟩⟩
  match j, hp with
  | 0, hp =>
    obtain rfl : l = p := by simpa using hp
    refine ⟨[.slice A l.length c], rfl, ⟨A, c, rfl, hc, Kd.C_below hl hb⟩, fun i u hu => ?_⟩; rw [add_plain]; refine (q4 hk _).trans ?_
    match i, hu with
    | 0, hu => exact hu
  | 1, hp =>
    obtain rfl : m = p := by simpa using hp
    refine ⟨[.slice B m.length d], rfl, ⟨B, d, rfl, hd, Kd.C_below hm hb⟩, fun i u hu => ?_⟩; rw [add_plain]; refine (q4 hk _).trans ?_
    match i, hu with
    | 0, hu => exact hu
  | 2, hp =>
    obtain rfl : n = p := by simpa using hp
    refine ⟨[.slice C n.length e], rfl, ⟨C, e, rfl, he, Kd.C_below hn hb⟩, fun i u hu => ?_⟩; rw [add_plain]; refine (q4 hk _).trans ?_
    match i, hu with
    | 0, hu => exact hu
theorem in_at {A1 A2 : Option Addr} {c1 c2 : Nat} {a b : List Tm} {w : World} (ha : Kd.C k42 w A1 a.length a) (hb : Kd.C k42 w A2 b.length b) (hc1 : a.length ≤ c1) (hc2 : b.length ≤ c2) (h1 : bk42s a ≤ 1048576) (h2 : bk42s b ≤ 1048576) (r : Bool) (hr : embL a b = r) (W : World) (h : Below w.heap.size w W) :
    Calls Try.prog 25 #[.slice A1 a.length c1, .slice A2 b.length c2] W fun e W' => e = .returned (.bool r) ∧ Below w.heap.size w W' := by
  have f1 := flat_len a; have f2 := flat_len b; subst hr; refine (In.calls A1 A2 c1 c2 a b W (Kd.C_below ha h) (Kd.C_below hb h) hc1 hc2 (by omega) (by omega)).mono ?_; rintro e W' ⟨rfl, hb'⟩; exact ⟨rfl, q12 h hb'⟩
end Go.Proofs.Ytjhjhhibbmligaa.TE
end
section
namespace Go.Proofs.Ytjhjhhibbmligaa.TE
open Go.RowKit
set_option linter.unusedVariables false
section
variable {F : Fence} {n : Nat} {P : Program} {w : World}
def SeqS {α : Type} (F : Fence) (n : Nat) (P : Program) (l gf : Nat) (lb : Array Value) (encs : α → Array Value) (Fx : α → World → Prop) (R : Nat → World → World → Prop) (S : Prop) (Sp : α → Prop) (W : World) : Prop :=
  ∀ (J : World → Prop) (Jx : α → World → Prop), (∀ A B, J A → R W.heap.size A B → J B) → (∀ s A B, Jx s A → R W.heap.size A B → Jx s B) →
    (∀ x A, J A → Fx x A → YieldAt F (n - 1) P l (encs x) A fun e B => e = .returned (.bool false) ∧ Jx x B) →
    J W → CallsIn F n P gf (#[.func (.yield l) #[] #[]] ++ lb) W fun e B => (∃ v, e = .returned v) ∧ ((S ∧ J B) ∨ ∃ x, Sp x ∧ Jx x B)
def leavesPost {α : Type} (B : Nat) (Ix : Code → α → World → Prop) (x : α) (W : World) : Exit → Act → World → Prop
  | .normal, _, _ => False
  | .ret, _, W' => KeepsFrom B W W' ∧ Ix .ret x W'
  | .exit id, _, W' => KeepsFrom B W W' ∧ Ix (.exit id) x W'
  | .goto t, _, W' => KeepsFrom B W W' ∧ Ix (.goto t) x W'
  | .panic _, _, _ => False
  | .outgrown, _, _ => False
theorem wpIn_rangeFunc_S {α : Type} {g : Operand} {ps : Array Tmp} {assign body : Code} {Q : Exit → Act → World → Prop} {a : Act}
    (hro : F.round = none) (h1 : 1 ≤ n) {gf : Nat} {lb : Array Value} (hg : a.eval g = .func (.func gf) #[] lb) (hFg : F.fn gf) (eg : ∀ args w, (callFunc gf args).run P w = .ok (.enter gf args) w)
    {encs : α → Array Value} {Fx : α → World → Prop} {R : Nat → World → World → Prop} {S : Prop} {Sp : α → Prop}
    (hseq : ∀ W1, Below w.heap.size w W1 → W1.heap.size = w.heap.size + 2 → SeqS F (n - 1) P (w.heap.size + 1) gf lb encs Fx R S Sp W1)
    (hRo : ∀ H A B k o, R H A B → w.heap.size ≤ k → k < H → A.heap[k]? = some o → B.heap[k]? = some o) (hps : ∀ x, (encs x).size = ps.size)
    (I : World → Prop) (Ix : Code → α → World → Prop) (hI : OwnFrom w.heap.size (fun (_ : Unit) W => I W)) (hIx : ∀ c, OwnFrom w.heap.size (Ix c))
    (hIR : ∀ H A B, w.heap.size ≤ H → I A → R H A B → I B) (hIxR : ∀ c s H A B, w.heap.size ≤ H → Ix c s A → R H A B → Ix c s B) (h0 : I w)
    (Ax : α → Act → World → Prop) (hAx : ∀ x a', OwnFrom w.heap.size (fun (_ : Unit) W => Ax x a' W))
    (hassign : ∀ (l : Nat) (x : α) (W : World) (K : Act → World → Prop), I W → Fx x W → (∀ a' W', KeepsFrom w.heap.size W W' → I W' → Ax x a' W' → K a' W') →
      assign.wpIn (F.inRound l) (n - 1 - 1) P (Exit.then K (fun _ _ _ => False)) { tmps := (ps.zip (encs x)).foldl (fun t (p, v) => t.setIfInBounds p v) a.tmps, defers := [] } W)
    (hbody : ∀ (l : Nat) (x : α) (a' : Act) (W : World), w.heap.size ≤ l → (∃ r, W.heap[l]? = some (.loop r)) → I W → Ax x a' W → body.wpIn (F.inRound l) (n - 1 - 1) P (leavesPost w.heap.size Ix x W) a' W)
    (hdone : ∀ (D : Nat) (W : World), w.heap.size ≤ D → S → I W → W.heap[D]? = some (.deferred (some [])) → Q .normal { a with defers := { target := .collected D, args := #[] } :: a.defers } W)
    (hstop : ∀ (D : Nat) (c : Code) (x : α) (W : World), w.heap.size ≤ D → Sp x → Ix c x W → W.heap[D]? = some (.deferred (some [])) → c.wpIn F n P Q { a with defers := { target := .collected D, args := #[] } :: a.defers } W) :
    (Code.rangeFunc g ps assign body).wpIn F n P Q a w := by
  refine wpIn_rangeFunc fun fn hfn => ?_
  rw [hro]
  obtain ⟨rec, hrec⟩ : ∃ rec : LoopState → Option Code → Loop, rec = fun st pe => { state := st, pending := pe, fn, tmps := a.tmps, params := ps, assign, body, defers := w.heap.size } := ⟨_, rfl⟩
  obtain ⟨W1, hW1⟩ : ∃ W1, (w.alloc (.deferred (some []))).alloc (.loop (rec .ready none)) = W1 := ⟨_, rfl⟩
  have hL1 : W1.heap[w.heap.size + 1]? = some (.loop (rec .ready none)) := by
    rw [← hW1]; have := World.alloc_heap_new (w.alloc (.deferred (some []))) (.loop (rec .ready none)); rwa [World.size_alloc] at this
  have hK1 : W1.heap[w.heap.size]? = some (.deferred (some [])) := by rw [← hW1]; exact (Below.heap_alloc _ _ _ (by simp)).trans (World.alloc_heap_new w _)
  have hI1 : I W1 := by rw [← hW1]; exact hI.alloc (s := ()) _ (hI.alloc (s := ()) _ h0)
  have hb1 : Below w.heap.size w W1 := by rw [← hW1]; exact ((Below.refl _ w).alloc (Nat.le_refl _) _).alloc (by simp) _
  have hz1 : W1.heap.size = w.heap.size + 2 := by rw [← hW1]; simp
  refine ⟨w.heap.size + 1, [{ target := .collected w.heap.size, args := #[] }], W1, { target := .fn (.func gf) lb, args := #[.func (.yield (w.heap.size + 1)) #[] #[]] }, W1, gf,
    #[.func (.yield (w.heap.size + 1)) #[] #[]] ++ lb, W1, (by rw [← hW1, hrec]; exact run_enterLoop_outer _ _ _ _ _), (by simp only [resolve, hg]; simp [go_sem]), (fun f' hf' => by simp [Target.leads] at hf'; subst hf'; exact hFg), (by simp [invoke, go_sem, eg]), fun _ => h1, ?_⟩
  have hle : w.heap.size ≤ W1.heap.size := by omega
  refine (hseq W1 hb1 hz1 (fun W => I W ∧ W.heap[w.heap.size + 1]? = some (.loop (rec .ready none)) ∧ W.heap[w.heap.size]? = some (.deferred (some [])))
    (fun x W => ∃ c, Ix c x W ∧ W.heap[w.heap.size + 1]? = some (.loop (rec .done (some c))) ∧ W.heap[w.heap.size]? = some (.deferred (some [])))
    (fun A B hs hr => ⟨hIR _ A B hle hs.1 hr, hRo _ A B _ _ hr (by omega) (by omega) hs.2.1, hRo _ A B _ _ hr (Nat.le_refl _) (by omega) hs.2.2⟩)
    (fun s A B ⟨c, hc, hl, hk⟩ hr => ⟨c, hIxR c s _ A B hle hc hr, hRo _ A B _ _ hr (by omega) (by omega) hl, hRo _ A B _ _ hr (Nat.le_refl _) (by omega) hk⟩)
    ?_ ⟨hI1, hL1, hK1⟩).mono ?_
  · rintro x W ⟨hi, hl, hk⟩ hfx; have hy := run_yield (P := P) (args := encs x) hl (by rw [hrec]; exact hps x); rw [hrec] at hy; refine ⟨fn, _, assign, body, hy, roundIn_of_wpIn hfn (hassign _ x W _ hi hfx ?_)⟩; intro a' V hkf hiv hax; have hl' := hkf.same _ _ (by omega) hl rfl; have hk' := hkf.same _ _ (Nat.le_refl _) hk rfl; have hlt : w.heap.size + 1 < V.heap.size := (Array.getElem?_eq_some_iff.1 hl').1; refine ⟨_, run_beginRound hl' (by rw [hrec]), ?_⟩; have hl2 : (V.putObj (w.heap.size + 1) (.loop { rec .ready none with state := .busy })).heap[w.heap.size + 1]? = some (.loop { rec .ready none with state := .busy }) := World.putObj_heap_same hlt; have hk2 : (V.putObj (w.heap.size + 1) (.loop { rec .ready none with state := .busy })).heap[w.heap.size]? = some (.deferred (some [])) := (World.putObj_heap_other (by omega)).trans hk'; refine wpIn_mono (hbody _ x a' _ (by omega) ⟨_, hl2⟩ (hI.putObj (s := ()) _ hiv (by omega) hl' rfl) ((hAx x a').putObj (s := ()) _ hax (by omega) hl' rfl)) ?_; have fin : ∀ (jump : Option Code) (W3 : World), KeepsFrom w.heap.size (V.putObj (w.heap.size + 1) (.loop { rec .ready none with state := .busy })) W3 →
        (Instr.endRound (w.heap.size + 1) jump).run P W3 = .ok (.bool jump.isNone) (W3.putObj (w.heap.size + 1) (.loop (rec (if jump.isNone then .ready else .done) jump))) ∧
        W3.heap[w.heap.size + 1]? = some (.loop { rec .ready none with state := .busy }) ∧
        (W3.putObj (w.heap.size + 1) (.loop (rec (if jump.isNone then .ready else .done) jump))).heap[w.heap.size + 1]? = some (.loop (rec (if jump.isNone then .ready else .done) jump)) ∧
        (W3.putObj (w.heap.size + 1) (.loop (rec (if jump.isNone then .ready else .done) jump))).heap[w.heap.size]? = some (.deferred (some [])) := fun jump W3 hk3 => by
      have hl3 := hk3.same _ _ (by omega) hl2 rfl; have := run_endRound (P := P) jump hl3; rw [hrec] at this ⊢; exact ⟨this, by rw [hrec] at hl3; exact hl3, World.putObj_heap_same (Array.getElem?_eq_some_iff.1 hl3).1, (World.putObj_heap_other (by omega)).trans (hk3.same _ _ (Nat.le_refl _) hk2 rfl)⟩
    have away : ∀ (c : Code) (W3 : World), KeepsFrom w.heap.size (V.putObj (w.heap.size + 1) (.loop { rec .ready none with state := .busy })) W3 → Ix c x W3 → ∃ c', Ix c' x (W3.putObj (w.heap.size + 1) (.loop (rec .done (some c)))) ∧ (W3.putObj (w.heap.size + 1) (.loop (rec .done (some c)))).heap[w.heap.size + 1]? = some (.loop (rec .done (some c'))) ∧ (W3.putObj (w.heap.size + 1) (.loop (rec .done (some c)))).heap[w.heap.size]? = some (.deferred (some [])) := fun c W3 hk3 hi3 => by
      obtain ⟨_, hl3, hl4, hk4⟩ := fin (some c) W3 hk3; exact ⟨c, (hIx _).putObj _ hi3 (by omega) hl3 rfl, hl4, hk4⟩
    rintro e a3 W3 hp
    cases e with
    | normal => exact hp.elim
    | ret => exact ⟨_, _, (fin (some .ret) W3 hp.1).1, ⟨rfl, away _ W3 hp.1 hp.2⟩⟩
    | exit id => exact ⟨_, _, (fin (some (.exit id)) W3 hp.1).1, ⟨rfl, away _ W3 hp.1 hp.2⟩⟩
    | goto t => exact ⟨_, _, (fin (some (.goto t)) W3 hp.1).1, ⟨rfl, away _ W3 hp.1 hp.2⟩⟩
    | panic ch => exact hp.elim
    | outgrown => exact hp.elim
  · rintro e W2 ⟨⟨v, rfl⟩, (⟨hS, hi, hl, hk⟩ | ⟨x, hSp, c, hi, hl, hk⟩)⟩
    · exact ⟨none, _, by have := run_endLoop (P := P) hl (by rw [hrec]; simp); rw [hrec] at this; exact this, hdone _ _ (Nat.le_refl _) hS (hI.putObj (s := ()) _ hi (by omega) hl rfl) ((World.putObj_heap_other (by omega)).trans hk)⟩
    · exact ⟨some c, _, by have := run_endLoop (P := P) hl (by rw [hrec]; simp); rw [hrec] at this; exact this, hstop _ c x _ (Nat.le_refl _) hSp ((hIx c).putObj _ hi (by omega) hl rfl) ((World.putObj_heap_other (by omega)).trans hk)⟩
end
end Go.Proofs.Ytjhjhhibbmligaa.TE
end
