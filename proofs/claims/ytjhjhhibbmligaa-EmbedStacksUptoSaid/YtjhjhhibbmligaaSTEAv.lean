/- field.Active. -/
import Derived.Test.YtjhjhhibbmligaaSTELi
import Derived.Test.YtjhjhhibbmligaaSTENd
import Derived.RangeFuncNested
import Derived.Test.YtjhjhhibbmligaaSTEIx
import Derived.OwnWalkIn
import Derived.TacticsInMore
import Derived.LoopNIn
import Derived.LoopIn
import Derived.ArgAppend
section
namespace Go.Proofs.Ytjhjhhibbmligaa.TE
open Go.RowKit Go.Shelf Go.Proofs.YtjhjhhibbmligaaW.PrintWords Go.Proofs.YtjhjhhibbmligaaW.PrintLast Go.Proofs.YtjhjhhibbmligaaW.PrintMore Go.Proofs.Ytjhjhhibbmligaa.Evs
set_option linter.unusedVariables false
set_option linter.unusedSimpArgs false
structure Pb (W w : World) (va vb : Value) (g M : Nat) (ok : Nat → Prop) (a b : List Tm) : Prop where
  ex : ∀ NA NB T U, NA ≤ 1048576 → NB ≤ 1048576 → Ex w g M NA NB T U ok
  pa : PL w ok va a 0 []
  pb : PL w ok vb b 0 []
  kn : ∀ NA NB T U, Kn M NA NB T U w
  be : Below W.heap.size W w
  hM : W.heap.size ≤ M
set_option maxRecDepth 100000 in
set_option maxHeartbeats 4000000 in
theorem problem.calls (A1 A2 : Option Addr) (c1 c2 : Nat) (a b : List Tm) (W : World) (ha : Kd.C k42 W A1 a.length a) (hb : Kd.C k42 W A2 b.length b) (hc1 : a.length ≤ c1) (hc2 : b.length ≤ c2) (hla : (flat a).length ≤ 500000) (hlb : (flat b).length ≤ 500000) :
    Calls Try.prog 89 #[.slice A1 a.length c1, .slice A2 b.length c2] W fun e W' => ∃ va vb g M ok, e = .returned (.tuple #[va, vb, .pointer (some ⟨g, 0, none⟩)]) ∧ Pb W W' va vb g M ok a b := by
  have hmm := @run_makeMap Try.prog; obtain ⟨C0, hC0⟩ : ∃ C : Obj, C = .cells #[.int .i64 0] 3 := ⟨_, rfl⟩; have hb1 : Below W.heap.size W ((W.alloc C0).alloc C0) := ((Below.refl _ W).alloc (Nat.le_refl _) _).alloc (by simp) _; have hk1 : ((W.alloc C0).alloc C0).heap[W.heap.size]? = some C0 := (Below.heap_alloc _ _ _ (by simp)).trans (World.alloc_heap_new W _)
  have hk2 : ((W.alloc C0).alloc C0).heap[W.heap.size + 1]? = some C0 := by have := World.alloc_heap_new (W.alloc C0) C0; rwa [World.size_alloc] at this
  have hz1 : ((W.alloc C0).alloc C0).heap.size = W.heap.size + 2 := by simp
  obtain ⟨W1, hW1⟩ : ∃ W1, W1 = (W.alloc C0).alloc C0 := ⟨_, rfl⟩; rw [← hW1] at hb1 hk1 hk2 hz1; rw [hC0] at hk1 hk2; have hcall := nodes.calls W (SizeOf.sizeOf a) A1 c1 a (.slice none 0 0) [] W.heap.size 0 W1 (Nat.le_refl _) ha hc1 hb1 (Nat.le_refl _) hk1 (World.ownsRow_nil _ _ _ _) (by simp; omega) (by simp [Value.ownBlock]); have HCALL := Aside0.mk hcall; have HWW : Aside0 (W1 = (W.alloc (.cells #[.int .i64 0] 3)).alloc (.cells #[.int .i64 0] 3)) := ⟨by rw [hW1, hC0]⟩; have HHB := Aside0.mk hb; have HB1 := Aside0.mk hb1; have HK2 := Aside0.mk hk2; have HZ1 := Aside0.mk hz1; clear hcall hW1 ha hb hb1 hk1 hk2 hC0 hz1
  go_enter Try.func89, Try.ntmps89
  go_wp2_with fail
  rw [← HWW.out]; refine HCALL.out.mono ?_; rintro e w2 ⟨v1, vs1, rfl, ho1, hl1, _, hf1⟩; obtain ⟨B1, d1, rfl⟩ := own_formN ho1; have hz1 := HZ1.out; have hb2 : Below W.heap.size W w2 := fr_below0 HB1.out hf1 (fun k e => by omega); have hm2 : w2.heap[W.heap.size + 1]? = some (.cells #[.int .i64 0] 3 (0, 0)) := (hf1.block _ (by omega) (by omega)).trans HK2.out; have hcall := nodes.calls W (SizeOf.sizeOf b) A2 c2 b (.slice none 0 0) [] (W.heap.size + 1) 0 w2 (Nat.le_refl _) HHB.out hc2 hb2 (by omega) hm2 (World.ownsRow_nil _ _ _ _) (by simp; omega) (by simp [Value.ownBlock]); have HCALL2 := Aside0.mk hcall; have HO1 := Aside0.mk ho1; have HL1 := Aside0.mk hl1; have HF1 := Aside0.mk hf1; have HB2 := Aside0.mk hb2; have HM2 := Aside0.mk hm2; clear hcall ho1 hl1 hf1 hb2 hm2 HCALL hz1
  go_wp2_with fail
  refine HCALL2.out.mono ?_; rintro e w5 ⟨v2, vs2, rfl, ho2, hl2, _, hf2⟩; obtain ⟨B2, d2, rfl⟩ := own_formN ho2; have HO2 := Aside0.mk ho2; have HL2 := Aside0.mk hl2; have HF2 := Aside0.mk hf2; clear ho2 hl2 hf2 HCALL2
  go_wp2_with fail
  have hz1 := HZ1.out; have hz2 := HF1.out.size; have hz5 := HF2.out.size; have hb5 : Below W.heap.size W w5 := fr_below0 HB2.out HF2.out (fun k e => by omega); obtain ⟨w7, hw7⟩ : ∃ w7, w7 = (w5.alloc (.map #[] 0)).alloc (.cells #[.map (some w5.heap.size)] 167) := ⟨_, rfl⟩
  have hb7 : Below w5.heap.size w5 w7 := by rw [hw7]; exact ((Below.refl _ w5).alloc (Nat.le_refl _) _).alloc (by simp) _
  have hm7 : w7.heap[w5.heap.size]? = some (.map #[] 0) := by rw [hw7]; exact (Below.heap_alloc _ _ _ (by simp)).trans (MapKept.heap_alloc w5 (.map #[] 0)).1
  have he7 : w7.heap[w5.heap.size + 1]? = some (.cells #[.map (some w5.heap.size)] 167 (0, 0)) := by
    rw [hw7]; have := World.alloc_heap_new (w5.alloc (.map #[] 0)) (.cells #[.map (some w5.heap.size)] 167)
    rwa [World.size_alloc] at this
  rw [← hw7]
  have hkn : ∀ NA NB T U, Kn w5.heap.size NA NB T U w7 := fun NA NB T U => by
    rw [hw7]; exact (Kn.made w5 NA NB T U).below ((Below.refl _ _).alloc (Nat.le_refl _) _)
  have ho1 := HO1.out; have ho2 := HO2.out
  have h17 : ∀ k, W1.heap.size ≤ k → k < w2.heap.size → w7.heap[k]? = w2.heap[k]? := fun k h1 h2 => (hb7.block k (by omega)).trans (HF2.out.block k h2 (by omega))
  have hPb : Pb W w7 (.slice B1 a.length d1) (.slice B2 b.length d2) (w5.heap.size + 1) w5.heap.size (fun k => W1.heap.size ≤ k ∧ k < w5.heap.size) a b := by
    refine ⟨fun NA NB T U hA hB => ⟨he7, blk_lt hm7, by omega, fun k hk => by omega, hA, hB⟩, ⟨vs1, ?_, ?_, ?_⟩, ⟨vs2, ?_, ?_, ?_⟩, hkn, hb5.trans (hb7.mono (by omega)), by omega⟩
    · exact own_same (own_base0 ho1) (fun k e => h17 k (own_ltA ho1 k e).2 (own_ltA ho1 k e).1)
    · exact fun k e => by have := own_ltA ho1 k e; omega
    · exact HL1.out.keep (fun k hk hl => h17 k hk.1 hl) (fun k hk hl => by have := hk.1; omega)
    · exact own_same (own_base0 ho2) (fun k e => hb7.block k (own_ltA ho2 k e).1)
    · exact fun k e => by have := own_ltA ho2 k e; omega
    · exact HL2.out.keep (fun k hk hl => hb7.block k hl) (fun k hk hl => by have := hk.1; omega)
  have HPB := Aside0.mk hPb; clear hPb hkn he7 hm7 hb7 hb5 hw7 h17 ho1 ho2 hz1 hz2 hz5
  go_wp2
  go_ret3
  exact ⟨_, _, _, _, _, rfl, HPB.out⟩
def tabT (a : List Tm) (i : Nat) : Tm := (flat a).getD i ⟨0, ⟨#[]⟩, []⟩
theorem tab_sub (a : List Tm) : SubL (tabT a) (flat a).length 0 a := fun q h => ⟨by omega, by unfold tabT; rw [Nat.zero_add, List.getD_eq_getElem?_getD, List.getElem?_eq_getElem h]; rfl⟩
theorem Pb.st {W w : World} {va vb : Value} {g M : Nat} {ok : Nat → Prop} {a b : List Tm} (h : Pb W w va vb g M ok a b) (NA NB : Nat) (T U : Nat → Tm) : St w M NA NB T U w := ⟨Fr.refl _ _, h.kn _ _ _ _⟩
theorem Pb.frame {W w w' : World} {va vb : Value} {g M : Nat} {ok : Nat → Prop} {a b : List Tm} (h : Pb W w va vb g M ok a b) (hf : Fr w w' (fun i => i = M)) : Below W.heap.size W w' := fr_below0 h.be hf (fun k e => by have := h.hM; omega)
set_option maxRecDepth 100000 in
set_option maxHeartbeats 4000000 in
theorem In.calls (A1 A2 : Option Addr) (c1 c2 : Nat) (a b : List Tm) (W : World) (ha : Kd.C k42 W A1 a.length a) (hb : Kd.C k42 W A2 b.length b) (hc1 : a.length ≤ c1) (hc2 : b.length ≤ c2) (hla : (flat a).length ≤ 500000) (hlb : (flat b).length ≤ 500000) :
    Calls Try.prog 25 #[.slice A1 a.length c1, .slice A2 b.length c2] W fun e W' => e = .returned (.bool (embL a b)) ∧ Below W.heap.size W W' := by
  have hcall := problem.calls A1 A2 c1 c2 a b W ha hb hc1 hc2 hla hlb; have HCALL := Aside0.mk hcall; clear hcall ha hb
  go_enter Try.func25, Try.ntmps25
  go_wp2_with fail
  refine HCALL.out.mono ?_; rintro e w2 ⟨va, vb, g, M, ok, rfl, hP⟩; have hcall := lists_all (hP.ex (flat a).length (flat b).length (tabT a) (tabT b) (by omega) (by omega)) (SizeOf.sizeOf a + SizeOf.sizeOf b) va vb a b 0 0 [] [] w2 hP.pa hP.pb (tab_sub a) (tab_sub b) (by omega) (hP.st _ _ _ _); have HP := Aside0.mk hP; have HC := Aside0.mk hcall; clear hcall hP HCALL
  go_wp2_with fail
  refine HC.out.mono ?_; rintro e w3 ⟨rfl, hs, hf⟩; have HF := Aside0.mk hf; clear hs hf HC
  go_wp2_with fail
  go_ret; exact ⟨rfl, HP.out.frame HF.out⟩
end Go.Proofs.Ytjhjhhibbmligaa.TE
end
section
namespace Go.Proofs.Ytjhjhhibbmligaa.TE
open Go.RowKit Go.Shelf Go.Proofs.YtjhjhhibbmligaaW.PrintWords Go.Proofs.YtjhjhhibbmligaaW.PrintLast Go.Proofs.YtjhjhhibbmligaaW.PrintMore Go.Proofs.Ytjhjhhibbmligaa.Evs
set_option linter.unusedVariables false
set_option linter.unusedSimpArgs false
theorem flat_ea : (flat ea).length ≤ 500000 := by unfold ea; simp [flat]
theorem flat_eb : (flat eb).length ≤ 500000 := by unfold eb; simp [flat]
theorem str_row (w : World) (vs : List ByteArray) (h : 0 < vs.length) (hm : vs.length ≤ 1048576) : Kd.C Kd.string (w.alloc (.cells (vs.map Value.string).toArray 9)) (some ⟨w.heap.size, 0, none⟩) vs.length vs := by
  refine ⟨rfl, by omega, fun _ => ⟨_, rfl, fun j p hp => ⟨[.string p], rfl, rfl, fun i u hu => ?_⟩⟩⟩; have hjl : j < vs.length := (List.getElem?_eq_some_iff.1 hp).1; rw [add_plain]; refine (q4 (World.alloc_heap_new w _) _).trans ?_
  match i, hu with
  | 0, hu =>
    obtain rfl : Value.string p = u := by simpa using hu
    have hs : Kd.string.sz = 1 := rfl; rw [hs, Nat.mul_one, Nat.add_zero]; simp [hp]
set_option maxRecDepth 100000 in
set_option maxHeartbeats 4000000 in
theorem awakeE.calls (W : World) : Calls Try.prog 16 #[] W fun e W' => e = .returned (.bool true) ∧ Below W.heap.size W W' := by
  have hp1 := fun W => Parse.calls ex1 W
  have hp2 := fun W => Parse.calls ex2 W
  rw [parse_ex1] at hp1; rw [parse_ex2] at hp2; have HP1 := Aside0.mk hp1; have HP2 := Aside0.mk hp2; clear hp1 hp2
  go_enter Try.func16, Try.ntmps16
  go_wp2_with fail
  refine (HP1.out _).mono ?_; rintro e w1 ⟨A1, c1, rfl, hc1, hC1, hb1⟩; have HC1 := Aside0.mk hC1; have HB1 := Aside0.mk hb1; have HL1 := Aside0.mk hc1; clear hC1 hb1 hc1 HP1
  go_wp2_with fail
  refine (HP2.out _).mono ?_; rintro e w2 ⟨A2, c2, rfl, hc2, hC2, hb2⟩; have HC2 := Aside0.mk hC2; have HB2 := Aside0.mk hb2; have HL2 := Aside0.mk hc2; clear hC2 hb2 hc2 HP2
  go_wp2_with fail
  have s1 := str_row w2 pa1 (by decide) (by decide); have s2 := str_row (w2.alloc (.cells (pa1.map Value.string).toArray 9)) pb1 (by decide) (by decide); have hb3 : Below w2.heap.size w2 ((w2.alloc (.cells (pa1.map Value.string).toArray 9)).alloc (.cells (pb1.map Value.string).toArray 9)) := ((Below.refl _ _).alloc (Nat.le_refl _) _).alloc (by simp) _; obtain ⟨w3, hw3⟩ : ∃ w3, w3 = (w2.alloc (.cells (pa1.map Value.string).toArray 9)).alloc (.cells (pb1.map Value.string).toArray 9) := ⟨_, rfl⟩; have hcall := Prefix.calls (some ⟨w2.heap.size, 0, none⟩) (some ⟨w2.heap.size + 1, 0, none⟩) 2 3 pa1 pb1 w3 (by rw [hw3]; exact Kd.C_below s1 ((Below.refl _ _).alloc (Nat.le_refl _) _)) (by decide) (by rw [hw3]; rw [World.size_alloc] at s2; exact s2) (by decide) (by decide); rw [prefix_ex] at hcall; rw [← hw3] at hb3; have HB3 := Aside0.mk hb3; have HW3 := Aside0.mk hw3; have HCALL := Aside0.mk hcall; clear s1 s2 hb3 hw3 hcall
  change Calls _ _ _ ((w2.alloc (.cells (pa1.map Value.string).toArray 9)).alloc (.cells (pb1.map Value.string).toArray 9)) _
  rw [← HW3.out]; refine HCALL.out.mono ?_; rintro e w4 ⟨rfl, n4, rfl⟩; have hb4 : Below w2.heap.size w2 (w3.drewN n4) := ⟨HB3.out.os, HB3.out.tape, HB3.out.output, HB3.out.size, HB3.out.block⟩; have h1 := Kd.C_below (Kd.C_below HC1.out HB2.out) hb4; have h2 := Kd.C_below HC2.out hb4; obtain ⟨w4, hw4⟩ : ∃ w4, w4 = w3.drewN n4 := ⟨_, rfl⟩; rw [← hw4] at hb4 h1 h2 ⊢; have hI1 := In.calls A1 A2 c1 c2 ea eb w4 h1 h2 HL1.out HL2.out flat_ea flat_eb; rw [emb_ex1] at hI1; have HB4 := Aside0.mk hb4; have HI1 := Aside0.mk hI1; have H1 := Aside0.mk h1; have H2 := Aside0.mk h2; clear hb4 h1 h2 hw4 hI1
  go_wp2_with fail
  refine HI1.out.mono ?_; rintro e w5 ⟨rfl, hb5⟩; have hI2 := In.calls A2 A1 c2 c1 eb ea w5 (Kd.C_below H2.out hb5) (Kd.C_below H1.out hb5) HL2.out HL1.out flat_eb flat_ea; rw [emb_ex2] at hI2; have HB5 := Aside0.mk hb5; have HI2 := Aside0.mk hI2; clear hb5 hI2
  go_wp2_with fail
  refine HI2.out.mono ?_; rintro e w6 ⟨rfl, hb6⟩; have HB6 := Aside0.mk (q12 HB1.out (q12 (q12 HB2.out HB4.out) (q12 HB5.out hb6))); clear hb6
  go_wp2_with fail
  go_ret; exact ⟨rfl, HB6.out⟩
end Go.Proofs.Ytjhjhhibbmligaa.TE
end
section
namespace Go.Proofs.Ytjhjhhibbmligaa.TE
open Go.RowKit
set_option linter.unusedVariables false
section
variable {F : Fence} {n : Nat} {P : Program} {w : World}
def SeqS {α : Type} (F : Fence) (n : Nat) (P : Program) (l gf : Nat) (lb : Array Value) (encs : α → Array Value) (Fx : α → World → Prop) (R : Nat → World → World → Prop) (S : Prop) (Sp : α → Prop) (W : World) : Prop :=
  ∀ (J : World → Prop) (Jx : α → World → Prop), (∀ A B, J A → R W.heap.size A B → J B) → (∀ s A B, Jx s A → R W.heap.size A B → Jx s B) →
    (∀ x A, J A → Fx x A → YieldAt F (n - 1) P l (encs x) A fun e B => e = .returned (.bool false) ∧ Jx x B) →
    J W → CallsIn F n P gf (#[.func (.yield l) #[] #[]] ++ lb) W fun e B => (∃ v, e = .returned v) ∧ ((S ∧ J B) ∨ ∃ x, Sp x ∧ Jx x B)
def leavesPost {α : Type} (B : Nat) (Ix : Code → α → World → Prop) (x : α) (W : World) : Exit → Act → World → Prop
  | .normal, _, _ => False
  | .ret, _, W' => KeepsFrom B W W' ∧ Ix .ret x W'
  | .exit id, _, W' => KeepsFrom B W W' ∧ Ix (.exit id) x W'
  | .goto t, _, W' => KeepsFrom B W W' ∧ Ix (.goto t) x W'
  | .panic _, _, _ => False
  | .outgrown, _, _ => False
theorem wpIn_rangeFunc_S {α : Type} {g : Operand} {ps : Array Tmp} {assign body : Code} {Q : Exit → Act → World → Prop} {a : Act}
    (hro : F.round = none) (h1 : 1 ≤ n) {gf : Nat} {lb : Array Value} (hg : a.eval g = .func (.func gf) #[] lb) (hFg : F.fn gf) (eg : ∀ args w, (callFunc gf args).run P w = .ok (.enter gf args) w)
    {encs : α → Array Value} {Fx : α → World → Prop} {R : Nat → World → World → Prop} {S : Prop} {Sp : α → Prop}
    (hseq : ∀ W1, Below w.heap.size w W1 → W1.heap.size = w.heap.size + 2 → SeqS F (n - 1) P (w.heap.size + 1) gf lb encs Fx R S Sp W1)
    (hRo : ∀ H A B k o, R H A B → w.heap.size ≤ k → k < H → A.heap[k]? = some o → B.heap[k]? = some o) (hps : ∀ x, (encs x).size = ps.size)
    (I : World → Prop) (Ix : Code → α → World → Prop) (hI : OwnFrom w.heap.size (fun (_ : Unit) W => I W)) (hIx : ∀ c, OwnFrom w.heap.size (Ix c))
    (hIR : ∀ H A B, w.heap.size ≤ H → I A → R H A B → I B) (hIxR : ∀ c s H A B, w.heap.size ≤ H → Ix c s A → R H A B → Ix c s B) (h0 : I w)
    (Ax : α → Act → World → Prop) (hAx : ∀ x a', OwnFrom w.heap.size (fun (_ : Unit) W => Ax x a' W))
    (hassign : ∀ (l : Nat) (x : α) (W : World) (K : Act → World → Prop), I W → Fx x W → (∀ a' W', KeepsFrom w.heap.size W W' → I W' → Ax x a' W' → K a' W') →
      assign.wpIn (F.inRound l) (n - 1 - 1) P (Exit.then K (fun _ _ _ => False)) { tmps := (ps.zip (encs x)).foldl (fun t (p, v) => t.setIfInBounds p v) a.tmps, defers := [] } W)
    (hbody : ∀ (l : Nat) (x : α) (a' : Act) (W : World), w.heap.size ≤ l → (∃ r, W.heap[l]? = some (.loop r)) → I W → Ax x a' W → body.wpIn (F.inRound l) (n - 1 - 1) P (leavesPost w.heap.size Ix x W) a' W)
    (hdone : ∀ (D : Nat) (W : World), w.heap.size ≤ D → S → I W → W.heap[D]? = some (.deferred (some [])) → Q .normal { a with defers := { target := .collected D, args := #[] } :: a.defers } W)
    (hstop : ∀ (D : Nat) (c : Code) (x : α) (W : World), w.heap.size ≤ D → Sp x → Ix c x W → W.heap[D]? = some (.deferred (some [])) → c.wpIn F n P Q { a with defers := { target := .collected D, args := #[] } :: a.defers } W) :
    (Code.rangeFunc g ps assign body).wpIn F n P Q a w := by
  refine wpIn_rangeFunc fun fn hfn => ?_
  rw [hro]
  obtain ⟨rec, hrec⟩ : ∃ rec : LoopState → Option Code → Loop, rec = fun st pe => { state := st, pending := pe, fn, tmps := a.tmps, params := ps, assign, body, defers := w.heap.size } := ⟨_, rfl⟩
  obtain ⟨W1, hW1⟩ : ∃ W1, (w.alloc (.deferred (some []))).alloc (.loop (rec .ready none)) = W1 := ⟨_, rfl⟩
  have hL1 : W1.heap[w.heap.size + 1]? = some (.loop (rec .ready none)) := by
    rw [← hW1]; have := World.alloc_heap_new (w.alloc (.deferred (some []))) (.loop (rec .ready none)); rwa [World.size_alloc] at this
  have hK1 : W1.heap[w.heap.size]? = some (.deferred (some [])) := by rw [← hW1]; exact (Below.heap_alloc _ _ _ (by simp)).trans (World.alloc_heap_new w _)
  have hI1 : I W1 := by rw [← hW1]; exact hI.alloc (s := ()) _ (hI.alloc (s := ()) _ h0)
  have hb1 : Below w.heap.size w W1 := by rw [← hW1]; exact ((Below.refl _ w).alloc (Nat.le_refl _) _).alloc (by simp) _
  have hz1 : W1.heap.size = w.heap.size + 2 := by rw [← hW1]; simp
  refine ⟨w.heap.size + 1, [{ target := .collected w.heap.size, args := #[] }], W1, { target := .fn (.func gf) lb, args := #[.func (.yield (w.heap.size + 1)) #[] #[]] }, W1, gf,
    #[.func (.yield (w.heap.size + 1)) #[] #[]] ++ lb, W1, (by rw [← hW1, hrec]; exact run_enterLoop_outer _ _ _ _ _), (by simp only [resolve, hg]; simp [go_sem]), (fun f' hf' => by simp [Target.leads] at hf'; subst hf'; exact hFg), (by simp [invoke, go_sem, eg]), fun _ => h1, ?_⟩
  have hle : w.heap.size ≤ W1.heap.size := by omega
  refine (hseq W1 hb1 hz1 (fun W => I W ∧ W.heap[w.heap.size + 1]? = some (.loop (rec .ready none)) ∧ W.heap[w.heap.size]? = some (.deferred (some [])))
    (fun x W => ∃ c, Ix c x W ∧ W.heap[w.heap.size + 1]? = some (.loop (rec .done (some c))) ∧ W.heap[w.heap.size]? = some (.deferred (some [])))
    (fun A B hs hr => ⟨hIR _ A B hle hs.1 hr, hRo _ A B _ _ hr (by omega) (by omega) hs.2.1, hRo _ A B _ _ hr (Nat.le_refl _) (by omega) hs.2.2⟩)
    (fun s A B ⟨c, hc, hl, hk⟩ hr => ⟨c, hIxR c s _ A B hle hc hr, hRo _ A B _ _ hr (by omega) (by omega) hl, hRo _ A B _ _ hr (Nat.le_refl _) (by omega) hk⟩)
    ?_ ⟨hI1, hL1, hK1⟩).mono ?_
  · rintro x W ⟨hi, hl, hk⟩ hfx; have hy := run_yield (P := P) (args := encs x) hl (by rw [hrec]; exact hps x); rw [hrec] at hy; refine ⟨fn, _, assign, body, hy, roundIn_of_wpIn hfn (hassign _ x W _ hi hfx ?_)⟩; intro a' V hkf hiv hax; have hl' := hkf.same _ _ (by omega) hl rfl; have hk' := hkf.same _ _ (Nat.le_refl _) hk rfl; have hlt : w.heap.size + 1 < V.heap.size := (Array.getElem?_eq_some_iff.1 hl').1; refine ⟨_, run_beginRound hl' (by rw [hrec]), ?_⟩; have hl2 : (V.putObj (w.heap.size + 1) (.loop { rec .ready none with state := .busy })).heap[w.heap.size + 1]? = some (.loop { rec .ready none with state := .busy }) := World.putObj_heap_same hlt; have hk2 : (V.putObj (w.heap.size + 1) (.loop { rec .ready none with state := .busy })).heap[w.heap.size]? = some (.deferred (some [])) := (World.putObj_heap_other (by omega)).trans hk'; refine wpIn_mono (hbody _ x a' _ (by omega) ⟨_, hl2⟩ (hI.putObj (s := ()) _ hiv (by omega) hl' rfl) ((hAx x a').putObj (s := ()) _ hax (by omega) hl' rfl)) ?_; have fin : ∀ (jump : Option Code) (W3 : World), KeepsFrom w.heap.size (V.putObj (w.heap.size + 1) (.loop { rec .ready none with state := .busy })) W3 →
        (Instr.endRound (w.heap.size + 1) jump).run P W3 = .ok (.bool jump.isNone) (W3.putObj (w.heap.size + 1) (.loop (rec (if jump.isNone then .ready else .done) jump))) ∧
        W3.heap[w.heap.size + 1]? = some (.loop { rec .ready none with state := .busy }) ∧
        (W3.putObj (w.heap.size + 1) (.loop (rec (if jump.isNone then .ready else .done) jump))).heap[w.heap.size + 1]? = some (.loop (rec (if jump.isNone then .ready else .done) jump)) ∧
        (W3.putObj (w.heap.size + 1) (.loop (rec (if jump.isNone then .ready else .done) jump))).heap[w.heap.size]? = some (.deferred (some [])) := fun jump W3 hk3 => by
      have hl3 := hk3.same _ _ (by omega) hl2 rfl; have := run_endRound (P := P) jump hl3; rw [hrec] at this ⊢; exact ⟨this, by rw [hrec] at hl3; exact hl3, World.putObj_heap_same (Array.getElem?_eq_some_iff.1 hl3).1, (World.putObj_heap_other (by omega)).trans (hk3.same _ _ (Nat.le_refl _) hk2 rfl)⟩
    have away : ∀ (c : Code) (W3 : World), KeepsFrom w.heap.size (V.putObj (w.heap.size + 1) (.loop { rec .ready none with state := .busy })) W3 → Ix c x W3 → ∃ c', Ix c' x (W3.putObj (w.heap.size + 1) (.loop (rec .done (some c)))) ∧ (W3.putObj (w.heap.size + 1) (.loop (rec .done (some c)))).heap[w.heap.size + 1]? = some (.loop (rec .done (some c'))) ∧ (W3.putObj (w.heap.size + 1) (.loop (rec .done (some c)))).heap[w.heap.size]? = some (.deferred (some [])) := fun c W3 hk3 hi3 => by
      obtain ⟨_, hl3, hl4, hk4⟩ := fin (some c) W3 hk3; exact ⟨c, (hIx _).putObj _ hi3 (by omega) hl3 rfl, hl4, hk4⟩
    rintro e a3 W3 hp
    cases e with
    | normal => exact hp.elim
    | ret => exact ⟨_, _, (fin (some .ret) W3 hp.1).1, ⟨rfl, away _ W3 hp.1 hp.2⟩⟩
    | exit id => exact ⟨_, _, (fin (some (.exit id)) W3 hp.1).1, ⟨rfl, away _ W3 hp.1 hp.2⟩⟩
    | goto t => exact ⟨_, _, (fin (some (.goto t)) W3 hp.1).1, ⟨rfl, away _ W3 hp.1 hp.2⟩⟩
    | panic ch => exact hp.elim
    | outgrown => exact hp.elim
  · rintro e W2 ⟨⟨v, rfl⟩, (⟨hS, hi, hl, hk⟩ | ⟨x, hSp, c, hi, hl, hk⟩)⟩
    · exact ⟨none, _, by have := run_endLoop (P := P) hl (by rw [hrec]; simp); rw [hrec] at this; exact this, hdone _ _ (Nat.le_refl _) hS (hI.putObj (s := ()) _ hi (by omega) hl rfl) ((World.putObj_heap_other (by omega)).trans hk)⟩
    · exact ⟨some c, _, by have := run_endLoop (P := P) hl (by rw [hrec]; simp); rw [hrec] at this; exact this, hstop _ c x _ (Nat.le_refl _) hSp ((hIx c).putObj _ hi (by omega) hl rfl) ((World.putObj_heap_other (by omega)).trans hk)⟩
end
end Go.Proofs.Ytjhjhhibbmligaa.TE
end
section
namespace Go.Proofs.Ytjhjhhibbmligaa.TE
open Go.RowKit Go.Shelf Go.Proofs.YtjhjhhibbmligaaW.PrintWords Go.Proofs.YtjhjhhibbmligaaW.PrintLast Go.Proofs.YtjhjhhibbmligaaW.PrintMore Go.Proofs.Ytjhjhhibbmligaa.Evs
set_option linter.unusedVariables false
set_option linter.unusedSimpArgs false
section
attribute [local go_sem] Oper.semAt_some
def act (l : List Tm) : Option (List Int) := go l 0
where go (l : List Tm) (i : Nat) : Option (List Int) :=
  match l with
  | [] => none
  | t :: r =>
    match go t.f2 0 with
    | some p => some ((i : Int) :: p)
    | none => if t.f0 = 8 then some [(i : Int)] else go r (i + 1)
  termination_by SizeOf.sizeOf l
  decreasing_by all_goals (cases t; simp; omega)
theorem act_cons (t : Tm) (r : List Tm) (i : Nat) : act.go (t :: r) i = match act t.f2 with | some p => some ((i : Int) :: p) | none => if t.f0 = 8 then some [(i : Int)] else act.go r (i + 1) := by rw [act.go, act]
theorem act_nil (i : Nat) : act.go [] i = none := by rw [act.go]
structure It where
  path : List Int
  pv : Value
  x : Tm
  A : Option Addr
  c : Nat
def It.enc (y : It) : Array Value := #[y.pv, .agg #[.int .i64 y.x.f0, .string y.x.f1, .slice y.A y.x.f2.length y.c]]
def It.fx (y : It) (W : World) : Prop := W.ownsRow 0 3 1 y.pv y.path.length (y.path.map (Value.int .i64 ·)) ∧ y.path.length ≤ 1099511627776
theorem wpListIn_append_full {F : Fence} {n : Nat} {P : Program} (w : World) {ops : Array Oper} {rest : List Oper} {o : Oper} {a : Act} {Q : Exit → Act → World → Prop}
    (hg : o.guard = none) (s x : Operand) (t : TypeId) (hop : o.op = Op.call { callee := Callee.builtin Builtin.append, args := #[s, x], argTypes := #[t, t] })
    (e : TypeId) (i : TypeInfo) (z : Value) (size bytes : Nat) (h1 : P.underlying t = some (.slice e)) (h2 : P.info? e = some i) (h3 : i.zero = some z) (h4 : i.size = size) (h5 : i.bytes = bytes) (h6 : z.cells.size = size) (h7 : 0 < size)
    (ao : Option Addr) (k : Nat) (olds : List Value) (hs : a.eval s = .slice ao k k) (hnone : ao = none → k = 0) (hlo : olds.length = k * size) (holds : ∀ b, ao = some b → ∀ j u, olds[j]? = some u → w.cell? (b.add j) = some u)
    (ad : Addr) (m c : Nat) (news : List Value) (hx : a.eval x = .slice (some ad) m c) (hm : 0 < m) (hn : news.length = m * size) (hc : ∀ j u, news[j]? = some u → w.cell? (ad.add j) = some u) (h1c : ∀ u ∈ news, u.oneCell' = true)
    (b1 : k + m ≤ maxLen) (b2 : (k + m) * bytes ≤ 140737488355328)
    (hK : ∀ v' w', w'.ownsRow w.heap.size e size v' (k + m) (olds ++ news) → w.grownBy w' none → wpListIn F n P ops Q rest (a.put o.dst v') w') :
    wpListIn F n P ops Q (o :: rest) a w := by
  refine wpListIn_plain hg fun K hK' => ?_
  have hr : ∃ v' w', (Builtin.append_ #[t, t] o.type #[.slice ao k k, .slice (some ad) m c]).run P w = .ok v' w' ∧ w'.ownsRow w.heap.size e size v' (k + m) (olds ++ news) ∧ w.grownBy w' none := by
    cases ao with
    | some b => exact run_append_arg_grows (P := P) w t o.type e i z size bytes h1 h2 h3 h4 h5 h6 h7 b k k olds hlo (holds b rfl) ad m c news hn hc (by omega) b1 b2
    | none =>
      obtain rfl := hnone rfl; obtain rfl : olds = [] := List.eq_nil_of_length_eq_zero (by simpa using hlo); obtain ⟨v', w', hrun, r1, r2, _⟩ := run_append_own (P := P) w w.heap.size t o.type e i z size bytes h1 h2 h3 h4 h5 h6 h7 (.slice none 0 0) 0 [] (World.ownsRow_nil w _ e size) ad m c news hn hc h1c b1 b2 (Nat.le_refl _); exact ⟨v', w', hrun, r1, r2⟩
  obtain ⟨v', w', hrun, r1, r2⟩ := hr; unfold Oper.wpIn; refine ⟨?_, ?_⟩
  · simp [Oper.about, hop, resolve, Target.leads, Sem.run_pure]
  · rw [Oper.semAt_plain F _ _ (by rw [hop]; intro c hc'; cases hc')]; simp [execOp, hop, resolve, invoke, builtin, hs, hx, hrun, Result.andThen]; exact hK' _ _ (hK v' w' r1 r2)
set_option maxRecDepth 100000 in
set_option maxHeartbeats 4000000 in
theorem fwalk (w0 : World) (lp by_ bw H n : Nat) (J : World → Prop) (Jx : It → World → Prop) (hJ : ∀ A B, J A → Below A.heap.size A B → H ≤ A.heap.size → J B)
    (hY : ∀ y W, J W → y.fx W → YieldAt Fence.wide n Try.prog lp y.enc W fun e W' => e = .returned (.bool false) ∧ Jx y W') :
    ∀ (k : Nat) (A : Option Addr) (c : Nat) (l : List Tm) (pv : Value) (path : List Int) (W : World), SizeOf.sizeOf l ≤ k → Kd.C k42 w0 A l.length l → l.length ≤ c → Below w0.heap.size w0 W → H ≤ W.heap.size →
      W.heap[by_]? = some (.cells #[.func (.yield lp) #[] #[]] 197 (0, 0)) → W.heap[bw]? = some (.cells #[.func (.func 183) #[] #[.pointer (some ⟨bw, 0, none⟩), .pointer (some ⟨by_, 0, none⟩)]] 198 (0, 0)) →
      J W → W.ownsRow 0 3 1 pv path.length (path.map (Value.int .i64 ·)) → path.length + (flat l).length ≤ 1099511627776 →
      CallsIn Fence.wide n Try.prog 183 #[.slice A l.length c, pv, .pointer (some ⟨bw, 0, none⟩), .pointer (some ⟨by_, 0, none⟩)] W fun e W' =>
        (act l = none ∧ e = .returned (.tuple #[.bool false, .bool true]) ∧ Below W.heap.size W W') ∨
        (e = .returned (.tuple #[.bool true, .bool false]) ∧ ∃ y : It, (∃ p, act l = some p ∧ y.path = path ++ p) ∧ Jx y W') := by
  intro k
  induction k with
  | zero => intro A c l pv path W hk; cases l <;> simp at hk
  | succ k ih =>
    intro A c l pv path W hk hC hc hB hH hy0 hw0 hj hp hbd; have hu42 := Try.underlying42; have hmax := Kd.C_max hC; obtain ⟨pa, pc, rfl⟩ := own_formN hp
    have hno : pa = none → path.length = 0 := fun e => by
      rcases hp.2 with ⟨_, h⟩ | ⟨b, cap, cur, e2, _⟩
      · exact h
      · rw [e] at e2; injection e2 with e2; cases e2
    have hho : ∀ b, pa = some b → ∀ j u, (path.map (Value.int .i64 ·))[j]? = some u → W.cell? (b.add j) = some u := fun b e j u hj => by
      rcases hp.2 with ⟨h, _⟩ | ⟨g, cap, cur, e2, _⟩
      · rw [e] at h; injection h with h; cases h
      · rw [e] at e2; injection e2 with e2 e3 e4; injection e2 with e2; subst e2; subst e; exact hp.cells rfl j u hj
    have hpcc : (path.length : Int) ≤ (pc : Int) := by
      rcases hp.2 with ⟨_, h⟩ | ⟨b, cap, cur, e2, _, _, h, _⟩
      · omega
      · injection e2 with _ _ e4; omega
    have HNO := Aside0.mk hno; have HHO := Aside0.mk hho; obtain ⟨i0, hi, hz0, hz1, hz2⟩ := info_parts info_intE; have HI := Aside0.mk (And.intro hi (And.intro hz0 (And.intro hz1 hz2))); have HC := Aside0.mk hC; have HB := Aside0.mk hB; have HY0 := Aside0.mk hy0; have HW0 := Aside0.mk hw0; have HJ0 := Aside0.mk hj; have HK := Aside0.mk hk; have HBD := Aside0.mk hbd; clear hp hC hB hy0 hw0 hj hk hbd hno hho hi hz0 hz1 hz2; refine callsIn_of_wp Try.func183 rfl trivial ?_ rfl; simp only [Try.ntmps183, List.size_toArray, List.length_cons, List.length_nil, Nat.reduceAdd, Nat.reduceSub, Array.replicate_succ, Array.replicate_zero, List.push_toArray, List.append_toArray, List.nil_append, List.cons_append]
    gi_wp2
    gi_loopw [6, 15] (fun v6 i wr => ∃ q : Nat, v6 = .bool false ∧ i = .int .i64 q ∧ q ≤ l.length ∧ Aside0 (act l = act.go (l.drop q) q) ∧ Aside0 (Below W.heap.size W wr)) (fun v6 i wr => l.length - (intOf i).toNat)
    case atStart => exact ⟨0, rfl, rfl, Nat.zero_le _, ⟨by rw [List.drop_zero]; rfl⟩, ⟨Below.refl _ _⟩⟩
    case round =>
      obtain ⟨q, rfl, rfl, hq, HA, HBr⟩ := hrel; have hbr : Below w0.heap.size w0 wr := q12 HB.out HBr.out
      by_cases hlt : q < l.length
      · obtain ⟨ad, A2, c2, rfl, hx0, hx1, hx2, hl2, hr2⟩ := at_T42 HC.out (q : Int) (by omega) (by omega)
        have hrd : rd_T42 l (q : Int) = l[q] := by simp [rd_T42, List.getD_eq_getElem?_getD, List.getElem?_eq_getElem hlt]
        rw [hrd] at hx0 hx1 hx2 hl2 hr2; rw [Int.toNat_natCast] at hx0 hx1 hx2; have hsz := sizeOf_kids' l q hlt
        have hac : act.go (l.drop q) q = match act l[q].f2 with | some p => some ((q : Int) :: p) | none => if l[q].f0 = 8 then some [(q : Int)] else act.go (l.drop (q + 1)) (q + 1) := by rw [List.drop_eq_getElem_cons hlt, act_cons]
        obtain ⟨x, hxx⟩ : ∃ x, l[q] = x := ⟨_, rfl⟩; rw [hxx] at hx0 hx1 hx2 hl2 hr2 hsz hac; replace hx0 := (hbr.cell (World.block_lt_of_cell? w0 _ hx0)).trans hx0; replace hx1 := (hbr.cell (World.block_lt_of_cell? w0 _ hx1)).trans hx1; replace hx2 := (hbr.cell (World.block_lt_of_cell? w0 _ hx2)).trans hx2
        have hsk : SizeOf.sizeOf x.f2 ≤ k := by have := HK.out; omega
        have hsb : path.length + 1 + (flat x.f2).length ≤ 1099511627776 := by
          have h0 := HBD.out; have h1 := flat_take_succ l q hlt; have h2 := flat_take_le l (q + 1); rw [h1, hxx, List.length_append, List.length_cons] at h2
          omega
        have hlb : decide ((q : Int) < (l.length : Int)) = true := by simp; omega
        have hn0 : (0 : Int) ≤ (path.length : Int) := Int.natCast_nonneg _; have hbk : Below wr.heap.size wr (wr.alloc (.cells #[.int .i64 x.f0, .string x.f1, .slice A2 x.f2.length c2] 42)) := (Below.refl _ _).alloc (Nat.le_refl _) _; have hkt := World.alloc_heap_new wr (.cells #[.int .i64 x.f0, .string x.f1, .slice A2 x.f2.length c2] 42); have HAC := Aside0.mk hac; have HX := Aside0.mk hxx; have HSK := Aside0.mk hsk; have HSB := Aside0.mk hsb; have HR2 := Aside0.mk hr2; have HL2 := Aside0.mk hl2; have HBK := Aside0.mk hbk; have HKT := Aside0.mk hkt; clear hac hxx hsk hsb hr2 hl2 hbk hkt hsz hrd
        have hdd : ∀ k : Nat, (Fence.wide.depth.isSome = true → 1 ≤ k) := fun k h => by simp [Fence.wide] at h
        have hpl : path.length ≤ 1099511627776 := by have := HSB.out; omega
        have HPL := Aside0.mk hpl; have hcn := cell_one_new (wr.alloc (.cells #[.int .i64 x.f0, .string x.f1, .slice A2 x.f2.length c2] 42)) (.int .i64 q) 3; rw [World.size_alloc] at hcn; have HCN := Aside0.mk hcn; clear hpl hcn
        gi_wp2_with (gi_at_builtin; refine wpListIn_append_full _ rfl (.tmp 25) (.tmp 27) 43 rfl 3 i0 (.int .i64 0) 1 8 Try.underlying43 HI.out.1 HI.out.2.1 HI.out.2.2.1 HI.out.2.2.2 rfl (by decide) _ path.length (path.map (Value.int .i64 ·)) rfl HNO.out (by simp) (fun b e j u hj => pw_cell_below (below_al (below_al HBr.out _) _) (HHO.out b e j u hj)) ⟨_, 0, none⟩ 1 1 [.int .i64 q] rfl (by decide) rfl HCN.out (by simp [Value.oneCell']) (by have := HPL.out; simp only [maxLen]; omega) (by have := HPL.out; omega) ?_; intro v7 w7 ho7 hg7; have HO7 := Aside0.mk ho7; have hb7 : Below W.heap.size W w7 := (below_al (below_al HBr.out _) _).grown hg7 (below_al (below_al HBr.out _) _).size (fun k e => (by cases e)); have hkt7 : w7.heap[wr.heap.size]? = _ := (hg7.block wr.heap.size (by simp; omega) (fun e => (by cases e))).trans ((Below.heap_alloc _ _ _ (by simp)).trans HKT.out); have HKT7 := Aside0.mk hkt7; have HB7 := Aside0.mk hb7; have HCALL := Aside0.mk (ih A2 c2 x.f2 v7 (path ++ [(q : Int)]) w7 HSK.out HR2.out HL2.out (q12 HB.out hb7) (Nat.le_trans hH hb7.size) (q18 HY0.out hb7) (q18 HW0.out hb7) (hJ W w7 HJ0.out hb7 hH) (by rw [List.map_append, List.length_append]; exact own_base0 ho7) (by rw [List.length_append]; exact HSB.out)); have cw : w7.cell? ⟨bw, 0, none⟩ = _ := (q4 (q18 HW0.out hb7) 0).trans rfl; have ct2 : w7.cell? ⟨wr.heap.size, 2, none⟩ = some (.slice A2 x.f2.length c2) := (q4 hkt7 2).trans rfl; clear ho7 hg7 hb7 hkt7 ih)
        refine ⟨trivial, hdd _, (calls_any HCALL.out).mono ?_⟩; rintro e w8 (⟨ha, rfl, hb8⟩ | ⟨rfl, y, ⟨p, hp, hyp⟩, hjx⟩)
        · have hB8 : Below W.heap.size W w8 := q12 HB7.out hb8; have hkt8 := q18 HKT7.out hb8; have d0 : w8.cell? ⟨wr.heap.size, 0, none⟩ = some (.int .i64 x.f0) := (q4 hkt8 0).trans rfl; have d1 : w8.cell? ⟨wr.heap.size, 1, none⟩ = some (.string x.f1) := (q4 hkt8 1).trans rfl; have d2 : w8.cell? ⟨wr.heap.size, 2, none⟩ = some (.slice A2 x.f2.length c2) := (q4 hkt8 2).trans rfl; have dy : w8.cell? ⟨by_, 0, none⟩ = _ := (q4 (q18 HY0.out hB8) 0).trans rfl; have HA8 := Aside0.mk ha; have HB8 := Aside0.mk hB8; have HO8 := Aside0.mk (own_below0 (own_base0 HO7.out) hb8); clear ha hB8 hkt8 hb8 cw ct2
          by_cases h8 : x.f0 = 8
          · have e8 : (x.f0 == 8) = true := by simp [h8]
            have hact : act l = some [(q : Int)] := by rw [HA.out, HAC.out, HA8.out]; simp [h8]
            have HACT := Aside0.mk hact; obtain ⟨fn, tmps, assign, body, hyr, hR⟩ := hY ⟨path ++ [(q : Int)], v7, x, A2, c2⟩ w8 (hJ W w8 HJ0.out HB8.out hH) (by unfold It.fx; rw [List.map_append, List.length_append]; exact ⟨HO8.out, by have := HSB.out; simp; omega⟩)
            dsimp only [It.enc] at hyr
            clear hact h8
            gi_wp2_with ((try refine ⟨hdd _, ?_⟩); refine (round_any hR).mono ?_; clear hR; rintro e W2 ⟨rfl, hjx⟩)
            clear hyr; have HJX := Aside0.mk hjx; clear hjx
            gi_wp2
            go_ret2
            exact .inr ⟨rfl, _, ⟨_, HACT.out, rfl⟩, HJX.out⟩
          · have e8 : (x.f0 == 8) = false := by simp [h8]
            have hact : act l = act.go (l.drop (q + 1)) (q + 1) := by rw [HA.out, HAC.out, HA8.out]; simp [h8]
            have HACT := Aside0.mk hact; clear hact h8
            gi_wp2
            refine ⟨fun _ h => (by cases h), ?_⟩
            gi_wp2
            go_roundw
            case rel => exact ⟨q + 1, rfl, by go_num, by omega, HACT, HB8⟩
            case measure => simp [intOf]; omega
        · have HJX := Aside0.mk hjx; have HACT : Aside0 (act l = some ((q : Int) :: p)) := ⟨by rw [HA.out, HAC.out, hp]⟩; have HYP := Aside0.mk hyp; clear hjx hp hyp cw ct2
          gi_wp2_with (rw [if_neg (by simp [undef])])
          refine ⟨fun _ h => (by cases h), ?_⟩
          gi_wp2
          go_ret2
          exact .inr ⟨rfl, y, ⟨_, HACT.out, by rw [HYP.out, List.append_assoc]; rfl⟩, HJX.out⟩
      · obtain rfl : q = l.length := by omega
        have hlb : decide ((l.length : Int) < (l.length : Int)) = false := by simp
        gi_wp2
        go_ret2
        exact .inl ⟨by rw [HA.out, List.drop_length, act_nil], rfl, HBr.out⟩
end
end Go.Proofs.Ytjhjhhibbmligaa.TE
end
section
namespace Go.Proofs.Ytjhjhhibbmligaa.TE
open Go.RowKit Go.Shelf Go.Proofs.YtjhjhhibbmligaaW.PrintWords Go.Proofs.YtjhjhhibbmligaaW.PrintLast Go.Proofs.YtjhjhhibbmligaaW.PrintMore Go.Proofs.Ytjhjhhibbmligaa.Evs
set_option linter.unusedVariables false
set_option linter.unusedSimpArgs false
section
attribute [local go_sem] Oper.semAt_some
theorem enters_fp : ∀ args w, (callFunc 182 args).run Try.prog w = .ok (.enter 182 args) w := enters_of Try.func182 (by kernel_rfl) rfl
theorem own_walks {W W' : World} {base n e z : Nat} {v : Value} {xs : List Value} {row : Option Nat} {B : Nat} (h : W.ownsRow base e z v n xs) (hg : W.grownBy W' row) (hr : ∀ r, row = some r → B ≤ r ∧ ∃ o : Obj, W.heap[r]? = some o ∧ o.isCells = false) : W'.ownsRow base e z v n xs := by
  refine own_same h (fun k hk => ?_)
  rcases h.2 with ⟨rfl, _⟩ | ⟨b, cap, cur, rfl, _, hh, _⟩
  · simp [Value.ownBlock] at hk
  · obtain rfl : b = k := by simpa [Value.ownBlock] using hk
    exact grownBy_keeps_cells hg (fun r e => (hr r e).2) hh rfl
set_option maxRecDepth 100000 in
set_option maxHeartbeats 4000000 in
theorem fplaces_seq (w0 : World) (A : Option Addr) (c : Nat) (l : List Tm) (hC : Kd.C k42 w0 A l.length l) (hc : l.length ≤ c) (hl : (flat l).length ≤ 1099511627776) (be : Nat) (W : World) (hB : Below w0.heap.size w0 W) (hbe : W.heap[be]? = some (.cells #[.slice A l.length c] 22 (0, 0))) (lp n : Nat) :
    SeqS Fence.wide n Try.prog lp 182 #[.pointer (some ⟨be, 0, none⟩)] It.enc It.fx (fun H A B => Below A.heap.size A B ∧ H ≤ A.heap.size) (act l = none) (fun y => act l = some y.path) W := by
  intro J Jx hJ hJx hY h0; obtain ⟨W2, hW2⟩ : ∃ W2, (W.alloc (.cells #[.func (.yield lp) #[] #[]] 197)).alloc (.cells #[.func (.func 183) #[] #[.pointer (some ⟨W.heap.size + 1, 0, none⟩), .pointer (some ⟨W.heap.size, 0, none⟩)]] 198) = W2 := ⟨_, rfl⟩
  have hb2 : Below W.heap.size W W2 := by rw [← hW2]; exact ((Below.refl _ W).alloc (Nat.le_refl _) _).alloc (by simp) _
  have hy2 : W2.heap[W.heap.size]? = some (.cells #[.func (.yield lp) #[] #[]] 197 (0, 0)) := by
    rw [← hW2]; exact (Below.heap_alloc _ _ _ (by simp)).trans (World.alloc_heap_new W _)
  have hw2 : W2.heap[W.heap.size + 1]? = some (.cells #[.func (.func 183) #[] #[.pointer (some ⟨W.heap.size + 1, 0, none⟩), .pointer (some ⟨W.heap.size, 0, none⟩)]] 198 (0, 0)) := by
    rw [← hW2]; have := World.alloc_heap_new (W.alloc (.cells #[.func (.yield lp) #[] #[]] 197)) (.cells #[.func (.func 183) #[] #[.pointer (some ⟨W.heap.size + 1, 0, none⟩), .pointer (some ⟨W.heap.size, 0, none⟩)]] 198)
    rwa [World.size_alloc] at this
  have hJ' : ∀ A B, J A → Below A.heap.size A B → W.heap.size ≤ A.heap.size → J B := fun A B h hb hs => hJ A B h ⟨hb, hs⟩
  have hcall := fwalk w0 lp W.heap.size (W.heap.size + 1) W.heap.size (n - 1) J Jx hJ' (fun y A h hf => yield_any (hY y A h hf)) (SizeOf.sizeOf l) A c l (.slice none 0 0) [] W2 (Nat.le_refl _) hC hc (q12 hB hb2) hb2.size hy2 hw2 (hJ' W W2 h0 hb2 (Nat.le_refl _)) (World.ownsRow_nil _ _ _ _) (by simp; exact hl); have HCALL := Aside0.mk hcall; have HB2 := Aside0.mk hb2; have b1 : W2.cell? ⟨be, 0, none⟩ = some (.slice A l.length c) := (q4 (q18 hbe hb2) 0).trans rfl; have b2 : W2.cell? ⟨W.heap.size + 1, 0, none⟩ = _ := (q4 hw2 0).trans rfl; have HJ := Aside0.mk (fun B (hb : Below W2.heap.size W2 B) => hJ' W2 B (hJ' W W2 h0 hb2 (Nat.le_refl _)) hb hb2.size); clear hcall hb2 hy2 hw2 hJ hJ' hJx hY h0 hbe hC
  have hdd : ∀ k : Nat, (Fence.wide.depth.isSome = true → 1 ≤ k) := fun k h => by simp [Fence.wide] at h
  refine callsIn_of_wp Try.func182 rfl trivial ?_ rfl; simp only [Try.ntmps182, List.size_toArray, List.length_cons, List.length_nil, Nat.reduceAdd, Nat.reduceSub, Array.replicate_succ, Array.replicate_zero, List.push_toArray, List.append_toArray, List.nil_append, List.cons_append]
  gi_wp2_with (fail)
  refine ⟨trivial, hdd _, HCALL.out.mono ?_⟩; clear HCALL; rintro e W3 (⟨ha, rfl, hb3⟩ | ⟨rfl, y, ⟨p, hp, hyp⟩, hjx⟩)
  · have HA := Aside0.mk ha; have HB3 := Aside0.mk hb3; clear ha hb3
    gi_wp2
    go_end0
    exact ⟨⟨_, rfl⟩, .inl ⟨HA.out, HJ.out _ HB3.out⟩⟩
  · have HP := Aside0.mk hp; have HYP := Aside0.mk hyp; have HJX := Aside0.mk hjx; clear hp hyp hjx
    gi_wp2
    go_end0
    exact ⟨⟨_, rfl⟩, .inr ⟨y, by rw [HP.out, HYP.out]; rfl, HJX.out⟩⟩
theorem leave1c {P : Program} {fn : Func} {tmps : Array Value} {R : Ending → World → Prop} {D : Nat} {W : World} {v : Value} (hk : W.heap[D]? = some (.deferred (some [])))
    (hr : (results fn tmps).run P (W.putObj D (.deferred none)) = .ok v (W.putObj D (.deferred none))) (h : R (.returned v) (W.putObj D (.deferred none))) :
    LeavesInM Fence.wide 9 P fn tmps R [{ target := .collected D, args := #[] }] .returning W :=
  ⟨by simp, .inl ⟨_, _, rfl, run_takeDeferred hk, _, hr, h⟩⟩
theorem own_notD {W : World} {base n z e D : Nat} {v : Value} {xs : List Value} {l : Option (List Deferred)} (h : W.ownsRow base e z v n xs) (hd : W.heap[D]? = some (.deferred l)) {k : Nat} (hk : v.ownBlock = some k) : D ≠ k := by
  rintro rfl
  rcases h.2 with ⟨rfl, _⟩ | ⟨b, cap, cur, rfl, _, hh, _⟩
  · simp [Value.ownBlock] at hk
  · obtain rfl : b = D := by simpa [Value.ownBlock] using hk
    rw [hd] at hh; cases hh
set_option maxRecDepth 100000 in
set_option maxHeartbeats 4000000 in
theorem fplaces.calls (A : Option Addr) (n c : Nat) (W : World) :
    Calls Try.prog 135 #[.slice A n c] W fun e W' => e = .returned (.func (.func 182) #[] #[.pointer (some ⟨W.heap.size, 0, none⟩)]) ∧ W' = W.alloc (.cells #[.slice A n c] 22) := by
  go_enter Try.func135, Try.ntmps135
  go_wp2
  go_ret; exact ⟨rfl, rfl⟩
set_option maxRecDepth 100000 in
set_option maxHeartbeats 4000000 in
theorem Active.calls (A : Option Addr) (c : Nat) (l : List Tm) (W : World) (hC : Kd.C k42 W A l.length l) (hc : l.length ≤ c) (hl : (flat l).length ≤ 1099511627776) (hd : ∀ p, act l = some p → p.length ≤ 1048576) :
    Calls Try.prog 85 #[.slice A l.length c] W fun e W' => ∃ v, e = .returned (.tuple #[v, .bool (act l).isSome]) ∧ W'.ownsRow 0 3 1 v ((act l).getD []).length (((act l).getD []).map (Value.int .i64 ·)) ∧ Below W.heap.size W W' := by
  refine calls_of_wp_marks Try.func85 rfl ?_; simp only [Try.ntmps85, List.size_toArray, List.length_cons, List.length_nil, Nat.reduceAdd, Nat.reduceSub, Array.replicate_succ, Array.replicate_zero, List.push_toArray, List.append_toArray, List.nil_append, List.cons_append]
  go_wp2_with (go_at_call 135; refine (fplaces.calls _ _ _ _).mono ?_; rintro e w' ⟨rfl, rfl⟩)
  obtain ⟨Wl, hWl⟩ : ∃ Wl, Wl = (((W.alloc (.cells #[.slice none 0 0] 43)).alloc (.cells #[.bool false] 4)).alloc (.cells #[.slice A l.length c] 22)) := ⟨_, rfl⟩
  have hbl : Below W.heap.size W Wl := by rw [hWl]; exact (((Below.refl _ W).alloc (Nat.le_refl _) _).alloc (by simp) _).alloc (by simp; omega) _
  have hszl : Wl.heap.size = W.heap.size + 3 := by rw [hWl]; simp
  have hk0 : Wl.heap[W.heap.size]? = some (.cells #[.slice none 0 0] 43 (0, 0)) := by
    rw [hWl]; exact (Below.heap_alloc _ _ _ (by simp; omega)).trans ((Below.heap_alloc _ _ _ (by simp)).trans (World.alloc_heap_new W _))
  have hk1 : Wl.heap[W.heap.size + 1]? = some (.cells #[.bool false] 4 (0, 0)) := by
    rw [hWl]; have := World.alloc_heap_new (W.alloc (.cells #[.slice none 0 0] 43)) (.cells #[.bool false] 4); rw [World.size_alloc] at this; exact (Below.heap_alloc _ _ _ (by simp)).trans this
  have hk2 : Wl.heap[W.heap.size + 1 + 1]? = some (.cells #[.slice A l.length c] 22 (0, 0)) := by
    rw [hWl]; have := World.alloc_heap_new ((W.alloc (.cells #[.slice none 0 0] 43)).alloc (.cells #[.bool false] 4)) (.cells #[.slice A l.length c] 22); rw [World.size_alloc, World.size_alloc] at this; exact this
  rw [← hWl]; have HK0 := Aside0.mk hk0; have HK1 := Aside0.mk hk1; have HBL := Aside0.mk hbl; clear hWl
  refine wpIn_wide.1 (wpIn_rangeFunc_S (n := 9) (gf := 182) (lb := #[.pointer (some ⟨W.heap.size + 1 + 1, 0, none⟩)]) rfl (by omega) rfl trivial enters_fp
    (encs := It.enc) (Fx := It.fx) (R := fun H A B => Below A.heap.size A B ∧ H ≤ A.heap.size) (S := act l = none) (Sp := fun y => act l = some y.path)
    (fun W1 hb hz => fplaces_seq W A c l hC hc hl _ W1 (q12 hbl hb) (q18 hk2 hb) _ _)
    (fun H A B k o hr h1 h2 h3 => q18 h3 hr.1)
    (fun _ => rfl)
    (fun V => Below Wl.heap.size Wl V)
    (fun cd y V => cd = .ret ∧ ∃ v, V.heap[W.heap.size]? = some (.cells #[v] 43 (0, 0)) ∧ V.heap[W.heap.size + 1]? = some (.cells #[.bool true] 4 (0, 0)) ∧ V.ownsRow 0 3 1 v y.path.length (y.path.map (Value.int .i64 ·)) ∧ Below W.heap.size W V)
    (ownFrom_below (Nat.le_refl _) (Nat.le_refl _))
    (fun cd => fun y V V' row ⟨h0, v, h1, h2, h3, h4⟩ hg hr => ⟨h0, v, (grownBy_keeps_cells hg (fun r e => (hr r e).2) h1 rfl).trans h1, (grownBy_keeps_cells hg (fun r e => (hr r e).2) h2 rfl).trans h2, own_walks h3 hg hr, h4.grown hg h4.size (fun k e => by have := (hr k e).1; omega)⟩)
    (fun H A B hH h hr => q12 h hr.1)
    (fun cd y H A B hH ⟨h0, v, h1, h2, h3, h4⟩ hr => ⟨h0, v, q18 h1 hr.1, q18 h2 hr.1, own_below0 h3 hr.1, q12 h4 hr.1⟩)
    (Below.refl _ _)
    (fun y a' V => y.fx V ∧ a' = { tmps := #[.slice A l.length c, undef, .pointer (some ⟨W.heap.size, 0, none⟩), .pointer (some ⟨W.heap.size + 1, 0, none⟩), y.pv, .slice A l.length c, .func (.func 182) #[] #[.pointer (some ⟨W.heap.size + 1 + 1, 0, none⟩)], y.pv, .agg #[.int .i64 y.x.f0, .string y.x.f1, .slice y.A y.x.f2.length y.c], undef, undef], defers := [] })
    (fun y a' => fun _ V V' row h hg hr => ⟨⟨own_walks h.1.1 hg hr, h.1.2⟩, h.2⟩) ?assign ?body ?done ?stop)
  case assign =>
    rintro lp y V K hi hf hK; have HK := Aside0.mk hK; have HI := Aside0.mk hi; have HF := Aside0.mk hf; clear hK hi hf hk0 hk1 hk2 hC hd; simp [It.enc]
    gi_wp2
    exact HK.out _ _ (KeepsFrom.refl _ _) HI.out ⟨HF.out, rfl⟩
  case body =>
    rintro lp y a' V hl2 hr hi ⟨hf, rfl⟩; have hcl := cloneI y.pv y.path V hf.1 hf.2; have e0 : V.heap[W.heap.size]? = _ := q18 HK0.out hi; have e1 : V.heap[W.heap.size + 1]? = _ := q18 HK1.out hi; have HCL := Aside0.mk hcl; have E0 := Aside0.mk e0; have E1 := Aside0.mk e1; have HI := Aside0.mk hi; clear hcl hi hf hk0 hk1 hk2 hC hr e0 e1
    gi_wp2_with (fail)
    refine ⟨trivial, (CallsIn.inRound lp (callsIn_wide.2 HCL.out)).mono ?_⟩; rintro e V2 ⟨v, rfl, ho, hb⟩; have f0 := q18 E0.out hb; have f1 := q18 E1.out hb; have q0 := q11 f0 0; have q1 := q11 f1 0; have p0 : V2.cell? ⟨W.heap.size, 0, none⟩ = some (.slice none 0 0) := (q4 f0 0).trans rfl; have p1 : V2.cell? ⟨W.heap.size + 1, 0, none⟩ = some (.bool false) := (q4 f1 0).trans rfl; obtain ⟨va, vc, rfl⟩ := own_formN ho; have HO := Aside0.mk ho; have HB := Aside0.mk hb; have F0 := Aside0.mk f0; have F1 := Aside0.mk f1; clear ho hb f0 f1
    gi_wp2
    have hbV : Below Wl.heap.size V V2 := HB.out.mono HI.out.size; have g1 := grown_set V2 W.heap.size 0 (.slice va y.path.length vc); have g2 := grown_set (V2.setCell ⟨W.heap.size, 0, none⟩ (.slice va y.path.length vc)) (W.heap.size + 1) 0 (.bool true)
    have s0 : (V2.setCell ⟨W.heap.size, 0, none⟩ (.slice va y.path.length vc)).heap[W.heap.size]? = some (.cells #[.slice va y.path.length vc] 43 (0, 0)) := by simpa using blk_set F0.out 0 (.slice va y.path.length vc)
    have s1 : (V2.setCell ⟨W.heap.size, 0, none⟩ (.slice va y.path.length vc)).heap[W.heap.size + 1]? = some (.cells #[.bool false] 4 (0, 0)) := (g1.block _ (blk_lt F1.out) (fun e => by injection e with e; omega)).trans F1.out; obtain ⟨V3, hV3⟩ : ∃ V3, V3 = V2.setCell ⟨W.heap.size, 0, none⟩ (.slice va y.path.length vc) := ⟨_, rfl⟩; rw [← hV3] at g1 g2 s0 s1 ⊢
    have s2 : (V3.setCell ⟨W.heap.size + 1, 0, none⟩ (.bool true)).heap[W.heap.size + 1]? = some (.cells #[.bool true] 4 (0, 0)) := by simpa using blk_set s1 0 (.bool true)
    obtain ⟨V4, hV4⟩ : ∃ V4, V4 = V3.setCell ⟨W.heap.size + 1, 0, none⟩ (.bool true) := ⟨_, rfl⟩; rw [← hV4] at g2 s2 ⊢; have hov := HO.out; refine ⟨⟨Nat.le_trans HB.out.size (Nat.le_trans g1.size g2.size), fun k o hk h1 h2 => (g2.block k (Nat.lt_of_lt_of_le (Nat.lt_of_lt_of_le (blk_lt h1) HB.out.size) g1.size) (fun e => by injection e with e; omega)).trans ((g1.block k (Nat.lt_of_lt_of_le (blk_lt h1) HB.out.size) (fun e => by injection e with e; omega)).trans (q18 h1 HB.out))⟩, rfl, _, (g2.block _ (blk_lt s0) (fun e => by injection e with e; omega)).trans s0, s2, ?_, ?_⟩
    · refine own_same (own_base0 hov) (fun k e => ?_); have h1 := own_ltA hov k e; have h2 := HI.out.size; exact (g2.block k (Nat.lt_of_lt_of_le h1.1 g1.size) (fun e => by injection e with e; omega)).trans (g1.block k h1.1 (fun e => by injection e with e; omega))
    · exact (((HBL.out.trans (HI.out.mono HBL.out.size)).trans (HB.out.mono (by have := HI.out.size; omega))).grown g1 (by have := HB.out.size; have := HI.out.size; omega) (fun k e => by injection e with e; omega)).grown g2 (by have := HB.out.size; have := HI.out.size; have := g1.size; omega) (fun k e => by injection e with e; omega)
  case done =>
    rintro D V hD hS hi hkD; have e0 : V.heap[W.heap.size]? = _ := q18 HK0.out hi; have e1 : V.heap[W.heap.size + 1]? = _ := q18 HK1.out hi; have q0 := q11 e0 0; have q1 := q11 e1 0; have p0 : V.cell? ⟨W.heap.size, 0, none⟩ = some (.slice none 0 0) := (q4 e0 0).trans rfl; have p1 : V.cell? ⟨W.heap.size + 1, 0, none⟩ = some (.bool false) := (q4 e1 0).trans rfl; have HI := Aside0.mk hi; have HKD := Aside0.mk hkD; have HS := Aside0.mk hS; have E0 := Aside0.mk e0; have E1 := Aside0.mk e1; clear hi hkD hS hk0 hk1 hk2 hC e0 e1
    go_wp2
    have g1 := grown_set V W.heap.size 0 (.slice none 0 0); have g2 := grown_set (V.setCell ⟨W.heap.size, 0, none⟩ (.slice none 0 0)) (W.heap.size + 1) 0 (.bool false)
    have s0 : (V.setCell ⟨W.heap.size, 0, none⟩ (.slice none 0 0)).heap[W.heap.size]? = some (.cells #[.slice none 0 0] 43 (0, 0)) := by simpa using blk_set E0.out 0 (.slice none 0 0)
    have s1 : (V.setCell ⟨W.heap.size, 0, none⟩ (.slice none 0 0)).heap[W.heap.size + 1]? = some (.cells #[.bool false] 4 (0, 0)) := (g1.block _ (blk_lt E1.out) (fun e => by injection e with e; omega)).trans E1.out; have d1 : (V.setCell ⟨W.heap.size, 0, none⟩ (.slice none 0 0)).heap[D]? = some (.deferred (some [])) := (Below.heap_setCell V ⟨W.heap.size, 0, none⟩ _ D (by show D ≠ W.heap.size; omega)).trans HKD.out; obtain ⟨V3, hV3⟩ : ∃ V3, V3 = V.setCell ⟨W.heap.size, 0, none⟩ (.slice none 0 0) := ⟨_, rfl⟩; rw [← hV3] at g1 g2 s0 s1 d1 ⊢
    have s2 : (V3.setCell ⟨W.heap.size + 1, 0, none⟩ (.bool false)).heap[W.heap.size + 1]? = some (.cells #[.bool false] 4 (0, 0)) := by simpa using blk_set s1 0 (.bool false)
    have d2 : (V3.setCell ⟨W.heap.size + 1, 0, none⟩ (.bool false)).heap[D]? = some (.deferred (some [])) := (Below.heap_setCell V3 ⟨W.heap.size + 1, 0, none⟩ _ D (by show D ≠ W.heap.size + 1; omega)).trans d1; obtain ⟨V4, hV4⟩ : ∃ V4, V4 = V3.setCell ⟨W.heap.size + 1, 0, none⟩ (.bool false) := ⟨_, rfl⟩; rw [← hV4] at g2 s2 d2 ⊢; have s3 : V4.heap[W.heap.size]? = some (.cells #[.slice none 0 0] 43 (0, 0)) := (g2.block _ (blk_lt s0) (fun e => by injection e with e; omega)).trans s0; have hb4 : Below W.heap.size W V4 := ((HBL.out.trans (HI.out.mono HBL.out.size)).grown g1 (by have := HI.out.size; omega) (fun k e => by injection e with e; omega)).grown g2 (by have := HI.out.size; have := g1.size; omega) (fun k e => by injection e with e; omega); have c0 : (V4.putObj D (.deferred none)).cell? ⟨W.heap.size, 0, none⟩ = some (.slice none 0 0) := (q4 ((World.putObj_heap_other (by omega)).trans s3) 0).trans rfl; have c1 : (V4.putObj D (.deferred none)).cell? ⟨W.heap.size + 1, 0, none⟩ = some (.bool false) := (q4 ((World.putObj_heap_other (by omega)).trans s2) 0).trans rfl; refine leave1c (v := .tuple #[.slice none 0 0, .bool false]) d2 (by simp [results, Try.results85, go_sem, c0, c1]) ⟨.slice none 0 0, by rw [HS.out]; rfl, by rw [HS.out]; exact World.ownsRow_nil _ _ _ _, putObj_below hb4 D _ (by omega) hb4.size⟩
  case stop =>
    rintro D cd y V hD hp ⟨rfl, v, h1, h2, h3, h4⟩ hkD; have HKD := Aside0.mk hkD; have H1 := Aside0.mk h1; have H2 := Aside0.mk h2; have H3 := Aside0.mk h3; have H4 := Aside0.mk h4; clear hkD h1 h2 h3 h4 hk0 hk1 hk2 hC
    gi_wp2
    have c0 : (V.putObj D (.deferred none)).cell? ⟨W.heap.size, 0, none⟩ = some v := (q4 ((World.putObj_heap_other (by omega)).trans H1.out) 0).trans rfl; have c1 : (V.putObj D (.deferred none)).cell? ⟨W.heap.size + 1, 0, none⟩ = some (.bool true) := (q4 ((World.putObj_heap_other (by omega)).trans H2.out) 0).trans rfl; have hov := H3.out; have hbv : Below W.heap.size W (V.putObj D (.deferred none)) := putObj_below H4.out D _ (by omega) H4.out.size; refine leave1c (v := .tuple #[v, .bool true]) HKD.out (by simp [results, Try.results85, go_sem, c0, c1]) ⟨v, by rw [hp]; rfl, by rw [hp]; exact own_same hov (fun k e => World.putObj_heap_other (fun h => own_notD hov HKD.out e h.symm)), hbv⟩
end
end Go.Proofs.Ytjhjhhibbmligaa.TE
end
