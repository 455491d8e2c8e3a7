/- Part of the walk: lemmas and printed functions that the claim uses (wip/tools/trim.py). -/
import Derived.Test.YtnffhiiihegjbaaFMDx0
import Derived.Test.YtnffhiiihegjbaaFMDx1
import Derived.Test.YtnffhiiihegjbaaFMDx6
import Derived.Test.YtnffhiiihegjbaaFMDx8
import Derived.Test.YtnffhiiihegjbaaFMDx10
import Derived.Test.YtnffhiiihegjbaaFMDx15
namespace Go.Proofs.Ytnffhiiihegjbaa.MD
open Go.RowKit Go.Proofs.YtnffhiiihegjbaaW.PrintWords Go.Proofs.YtnffhiiihegjbaaW.PrintLast Go.Proofs.YtnffhiiihegjbaaW.PrintMore
attribute [local go_sem] max2_int min2_int max_two min_two max_three min_three max_four min_four
set_option linter.unusedVariables false
set_option linter.unusedSimpArgs false
mutual
def chiasmuslaw09_MetaBack.j0 : Nat → List (S44) → Option (Bool)
  | 0, _ => none
  | k + 1, x0 => (meta_Dn.f k x0).bind fun bt366 => (if bt366.2 = 0 then ((meta_Up.f k bt366.1).bind fun bt370 => (if bt370.2 = 0 then ((chiasmusref01_Equal.f k bt370.1 x0).bind fun t374 => (if t374 = true then (chiasmuslaw09_MetaBack.j1 k x0) else (some false))) else (some false))) else (chiasmuslaw09_MetaBack.j1 k x0))
def chiasmuslaw09_MetaBack.j1 : Nat → List (S44) → Option (Bool)
  | 0, _ => none
  | k + 1, x0 => (term_Value.f k x0).bind fun t375 => (if t375 = 0 then ((chiasmuslaw09_starred.f k x0).bind fun t376 => (chiasmuslaw09_MetaBack.j2 k x0 (!t376))) else (chiasmuslaw09_MetaBack.j2 k x0 false))
def chiasmuslaw09_MetaBack.j2 : Nat → List (S44) → Bool → Option (Bool)
  | 0, _, _ => none
  | k + 1, x0, x71 => if x71 = true then ((meta_Up.f k x0).bind fun bt377 => ((meta_Dn.f k x0).bind fun bt381 => (if bt377.2 = 0 then (if bt381.2 = 0 then ((chiasmusref01_Equal.f k bt377.1 x0).bind fun t385 => (if t385 = true then ((chiasmusref01_Equal.f k bt381.1 x0).bind fun t386 => (if t386 = true then ((chiasmuslaw09_awake.f k).bind fun t387 => (some t387)) else (some false))) else (some false))) else (some false)) else (some false)))) else ((chiasmuslaw09_awake.f k).bind fun t388 => (some t388))
end
def api_Term.f (l0 : List S44) : Option (List S44) := if l0.length < 2932031007402 then some l0 else none
set_option maxHeartbeats 4000000 in
set_option maxRecDepth 100000 in
theorem api_Term.calls (P0_ : Nat → Prop) (A0 : Option Addr) (c0 : Nat) (l0 : List S44) (r : List S44) (w : World) (hs0 : Kd.V k44 44 w w.heap.size (fun k_ => P0_ k_) (.slice A0 l0.length c0) l0) (h : api_Term.f l0 = some r) :
    Calls Try.prog 67 #[.slice A0 l0.length c0] w fun e w' => ∃ v0_ : Value, e = .returned v0_ ∧ Kd.N k44 44 w' w.heap.size (fun k_ => P0_ k_ ∨ w.heap.size ≤ k_) v0_ r ∧ Below w.heap.size w w' := by
  obtain ⟨_, hc0, hF0⟩ := Kd.V_at hs0; unfold api_Term.f at h
  by_cases hl : l0.length < 2932031007402
  · rw [if_pos hl] at h; obtain rfl := Option.some.inj h; have hu44 := Try.underlying44
    have heq := fun (W : World) (a : Option Addr) (n c : Nat) => Lib.run_eql_slice_nil (P := Try.prog) W 22 44 a n c 0 0 Try.underlying22
    have info44' := info44; have hFb := Kd.F_bound hF0
    cases A0 with
    | none =>
      have hn : l0 = [] := by
        have h1 := (Kd.F_now hF0).2.2
        rcases l0 with _ | ⟨x, l⟩
        · rfl
        · obtain ⟨ad, he, _⟩ := h1 (by simp); cases he
      subst hn
      go_enter Try.func67, Try.ntmps67
      go_wp2
      go_ret; exact ⟨_, rfl, Kd.N_nil _ _ _ _ _, Below.refl _ _⟩
    | some ad =>
      go_enter Try.func67, Try.ntmps67
      go_wp2_with (first | ((with_reducible refine q21 (N := 5) rfl ?_); refine Kd.N_lit k44 w.heap.size 44 ?hg (N' := 5) ?hd (xs := ([] : List S44)) (inner := []) (ok := fun k_ => P0_ k_ ∨ w.heap.size ≤ k_) (okp := fun k_ => P0_ k_ ∨ w.heap.size ≤ k_) ?hr ?hp (fun _ hk => hk) (.inr (Nat.le_refl _)) (Below.refl _ _) (Nat.le_refl _) (by simp) ?_; (case hd => rfl); (case hg => rfl); (case hr => (go_simp; done)); (case hp => exact (Reps.none _ _)); intro v5 w5 ho5 hb5 hg_ hnew_; have HO5 := Aside0.mk ho5; have HB5 := Aside0.mk hb5; have HV5 := Aside0.mk (Kd.F_mono (Kd.F_step hFb fun k hk hlt => hb5.block k hk.2) (fun k hk => hk)); have HW5 := Aside0.mk hnew_; clear hg_ hnew_ ho5 hb5) | ((with_reducible refine gate_builtin (b := .append) (xs := #[.tmp 5, .tmp 6]) rfl ?_); at_builtin; refine Kd.N_append_rows k44 (w0 := w) w.heap.size rfl (.tmp 5) (.tmp 6) 22 44 (.agg #[(.int .i64 0), (.string ⟨#[]⟩), (.slice none 0 0)]) 48 rfl Try.underlying22 info44 rfl (by decide) (by omega) v5 ([] : List S44) l0 _ _ _ (fun k_ => P0_ k_ ∨ w.heap.size ≤ k_) (fun k_ => P0_ k_ ∧ k_ < w.heap.size) rfl rfl ?aO ?aR ?aQ ?aF ?aB ?aS ?aL ?_; (case aO => exact HO5.out); (case aR => exact HV5.out); (case aB => exact HB5.out); (case aL => simp; omega); (case aF => exact fun k hk => .inr (Nat.le_trans HB5.out.size hk)); (case aS => exact HB5.out.size); (case aQ => exact fun k hk => ⟨.inl hk.1, fun e_ => by obtain ⟨b, hb, hbs⟩ := HW5.out; rw [hb] at e_; have := Option.some.inj e_; have := hk.2; omega⟩); intro v1 w1 ho hb hg hat; have HO6 := Aside0.mk ho; have HB6 := Aside0.mk hb; clear ho hb hg hat))
      go_ret; exact ⟨_, rfl, HO6.out, HB6.out⟩
  · rw [if_neg hl] at h; cases h
mutual
def term_Copy.l0 : Nat → List (S44) → Int → Int → Option ((List (S44)))
  | 0, _, _, _ => none
  | k + 1, x3, x8, x9 => if x9 < x8 then (if 0 ≤ x9 then (if x9 < (x3.length : Int) then ((term_Copy.f k ((rd_T44 x3 x9).f2)).bind fun t393 => (term_Copy.l0 k (x3.set (x9 : Int).toNat (⟨(rd_T44 x3 x9).f0, (rd_T44 x3 x9).f1, t393⟩ : S44)) x8 (wrap64 (x9 + 1)))) else (none)) else (none)) else (some x3)
def term_Copy.f : Nat → List (S44) → Option ((List (S44)))
  | 0, _ => none
  | k + 1, l0 => (api_Term.f l0).bind fun t389 => (term_Copy.l0 k t389 (t389.length : Int) 0)
end
set_option maxHeartbeats 8000000 in
set_option maxRecDepth 100000 in
theorem term_Copy.calls (k : Nat) : ∀ (P0_ : Nat → Prop) (A0 : Option Addr) (c0 : Nat) (l0 : List (S44)) (r : List (S44)) (w : World) (hs0 : Kd.V k44 44 w w.heap.size (fun k_ => P0_ k_) (.slice A0 l0.length c0) l0) (h : term_Copy.f k l0 = some r),
    Calls Try.prog 40 #[.slice A0 l0.length c0] w fun e w' => ∃ v0_ : Value, e = .returned (v0_) ∧ Kd.N k44 44 w' w.heap.size (fun k_ => (P0_ k_ ∨ w.heap.size ≤ k_)) v0_ r ∧ Below w.heap.size w w' := by
  induction k using Nat.strongRecOn with
  | _ k ih =>
  intro P0_ A0 c0 l0 r w hs0 h
  cases k with
  | zero => exact absurd h (by simp [term_Copy.f])
  | succ k =>
  simp only [term_Copy.f] at h; have HO0 := Aside0.mk (show Kd.V k44 44 w w.heap.size (fun k_ => (P0_ k_ ∨ w.heap.size ≤ k_)) (.slice A0 l0.length c0) l0 from Kd.V_mono hs0 (fun k_ hk => .inl hk)); have HB := Aside0.mk (Below.refl w.heap.size w); have H : ((api_Term.f l0).bind fun t389 => (term_Copy.l0 k t389 (t389.length : Int) 0)) = some r := h; clear h; replace H := Option.bind_eq_some_iff.mp H; obtain ⟨t389, A20, H⟩ := H; replace H : (term_Copy.l0 k t389 (t389.length : Int) 0) = some r := H; have A2 := Aside0.mk A20; clear A20; have H' := Aside0.mk H; clear H
  go_enter Try.func40, Try.ntmps40
  go_wp2_with (first | ((with_reducible refine q14 (f := 67) rfl ?_); refine goesL_ (some 6) rfl rfl Try.func67 (by kernel_rfl) rfl #[.slice A0 l0.length c0] rfl (by (try simp only [List.map_toArray, List.map_cons, List.map_nil]); rfl) ?_; (with_reducible refine (api_Term.calls (fun k_ => (P0_ k_ ∨ w.heap.size ≤ k_)) _ _ l0 t389 _ ?side1 A2.out).mono ?_); (case side1 => exact HO0.out); rintro e w3 ⟨v390, rfl, ho0, hb⟩; refine ⟨_, rfl, ?_⟩; have n0_ := Aside0.mk (Kd.V_elder' (by exact HO0.out) (by exact Kd.N_base ho0) hb); have n1_ := Aside0.mk (Kd.N_lower (Kd.N_mono (ok' := fun k_ => (P0_ k_ ∨ w.heap.size ≤ k_)) ho0 (fun k_ hk_ => Or.elim hk_ (fun hs_ => hs_) (fun hn_ => (.inr (Nat.le_trans (q3 (by with_reducible exact HB.out)) hn_))))) (q3 (by with_reducible exact HB.out))); have n2_ := Aside0.mk (q10 (by with_reducible exact HB.out) hb); clear HO0; clear HB; have HO0 := n0_; have HO391 := n1_; have HB := n2_; clear n0_ n1_ n2_; (try clear hb); (try clear hb2); (try clear hk); (try clear hi); (try clear ho0); obtain ⟨Ao4, co4, eo4⟩ := Kd.N_slice HO391.out; subst eo4))
  go_loopg [9] k (fun kq v9 w' => ∃ (x3_1 : List (S44)) (x9_1 : Int), v9 = .int .i64 x9_1 ∧ Aside0 (term_Copy.l0 kq x3_1 (t389.length : Int) x9_1 = some r) ∧ Aside0 (kq ≤ k) ∧ Aside0 (Kd.N k44 44 w' w.heap.size (fun k_ => (P0_ k_ ∨ w.heap.size ≤ k_)) (.slice Ao4 t389.length co4) x3_1) ∧ Aside0 (Below w.heap.size w w'))
  case atStart => exact ⟨(t389), (0), (by rfl), H', ⟨Nat.le_refl _⟩, ⟨by exact HO391.out⟩, ⟨by with_reducible exact HB.out⟩⟩
  case round =>
    clear H'
    try clear p2
    try clear c4
    obtain ⟨x3_1, x9_1, rfl, HA, HK1, HO_3, HB⟩ := hrel; have hl3_1 := (Kd.N_reads' HO_3.out).1; rw [hl3_1] at HO_3
    (try simp only [hl3_1])
    cases gk with
    | zero => exact absurd HA.out (by simp [term_Copy.l0])
    | succ k1 =>
      have H := HA.out; clear HA; simp only [term_Copy.l0] at H
      by_cases c5 : x9_1 < (t389.length : Int)
      · rw [if_pos c5] at H; have c5b0 : decide (x9_1 < (t389.length : Int)) = true := decide_eq_true c5; clear c5
        by_cases c6 : 0 ≤ x9_1
        · rw [if_pos c6] at H; have c6b0 : decide (0 ≤ x9_1) = true := decide_eq_true c6; clear c6
          by_cases c7 : x9_1 < (x3_1.length : Int)
          · rw [if_pos c7] at H; have c7b0 : decide (x9_1 < (x3_1.length : Int)) = true := decide_eq_true c7; clear c7; replace H := Option.bind_eq_some_iff.mp H; obtain ⟨t393, A80, H⟩ := H; replace H : (term_Copy.l0 k1 (x3_1.set (x9_1 : Int).toNat (⟨(rd_T44 x3_1 x9_1).f0, (rd_T44 x3_1 x9_1).f1, t393⟩ : S44)) (t389.length : Int) (wrap64 (x9_1 + 1))) = some r := H; have A8 := Aside0.mk A80; clear A80; obtain ⟨y396, hy396⟩ : ∃ y_ : List (S44), y_ = (x3_1.set (x9_1 : Int).toNat (⟨(rd_T44 x3_1 x9_1).f0, (rd_T44 x3_1 x9_1).f1, t393⟩ : S44)) := ⟨_, rfl⟩
            replace H : (term_Copy.l0 k1 y396 (t389.length : Int) (wrap64 (x9_1 + 1))) = some r := by (rw [hy396]; with_reducible exact H)
            have Ny396 := Aside0.mk hy396; clear hy396; have H' := Aside0.mk H; clear H; have p392 : 0 ≤ (x9_1 : Int) := of_decide_eq_true (by (with_reducible assumption)); have q392 : x9_1 < (x3_1.length : Int) := of_decide_eq_true (by (with_reducible assumption)); obtain ⟨ad392, A392_2, c392_2, e392, hx392_0, hx392_1, hx392_2, hl392_2, hi392_2⟩ := at_T44 (Kd.N_reads' HO_3.out).2.2 x9_1 p392 q392; cases e392; obtain ⟨ce392, hce392, hMe392, hcc392⟩ := Kd.N_get HO_3.out z44 x9_1 p392 (by exact q392); obtain ⟨ua392_2, uc392_2, rfl, ul392_2, ge392_2⟩ := k44_openF hMe392; have hv392_2 := hcc392 2 _ rfl; rw [add_field _ _ 2 (by omega)] at hv392_2; replace hv392_2 := Option.some.inj (hv392_2.symm.trans hx392_2)
            injection hv392_2 with hva_ hvn_ hvc_
            rw [hva_] at ge392_2; rw [hvc_] at ul392_2; have HL392_2 := Aside0.mk (show Kd.V k44 44 _ w.heap.size _ _ ((rd_T44 x3_1 x9_1).f2) from Kd.V_mk ul392_2 ge392_2); clear hva_ hvn_ hvc_ ge392_2 ul392_2; clear hcc392 hce392; have HR392_2 := Aside0.mk hi392_2; have HC392_2 := Aside0.mk hl392_2; clear hi392_2 hl392_2; replace p392 := eq_true p392; replace q392 := eq_true q392
            go_wp2_with (first | ((with_reducible refine q14 (f := 40) rfl ?_); refine goesL_ (some 19) rfl rfl Try.func40 (by kernel_rfl) rfl #[.slice A392_2 ((rd_T44 x3_1 x9_1).f2).length c392_2] rfl (by (try simp only [List.map_toArray, List.map_cons, List.map_nil]); rfl) ?_; (with_reducible refine (ih k1 (by have := HK1.out; omega) (fun k_ => ((P0_ k_ ∨ w.heap.size ≤ k_) ∧ some k_ ≠ (.slice (some ad392) x3_1.length co4 : Value).ownBlock)) _ _ ((rd_T44 x3_1 x9_1).f2) t393 _ ?side1 A8.out).mono ?_); (case side1 => exact HL392_2.out); rintro e w10 ⟨v394, rfl, ho0, hb⟩; refine ⟨_, rfl, ?_⟩; have n0_ := Aside0.mk (Kd.N_elder' (by exact HO_3.out) (by exact Kd.N_base ho0) hb); have n1_ := Aside0.mk (Kd.V_elder' (by exact HL392_2.out) (by exact Kd.N_base ho0) hb); have n2_ := Aside0.mk (Kd.N_lower (Kd.N_mono (ok' := fun k_ => (P0_ k_ ∨ w.heap.size ≤ k_) ∧ some k_ ≠ (.slice (some ad392) x3_1.length co4 : Value).ownBlock) ho0 (fun k_ hk_ => ⟨Or.elim hk_ (fun hs_ => hs_.1) (fun hn_ => (.inr (Nat.le_trans (q3 (by with_reducible exact HB.out)) hn_))), Or.elim hk_ (fun hs_ => hs_.2) (fun hn_ => (Kd.fresh' (Kd.N_lt (by exact HO_3.out)) k_ hn_))⟩)) (q3 (by with_reducible exact HB.out))); have n3_ := Aside0.mk (Kd.C_below (by with_reducible exact HR392_2.out) hb); have n4_ := Aside0.mk (q10 (by with_reducible exact HB.out) hb); clear HO_3; clear HL392_2; clear HR392_2; clear HB; have HO_3 := n0_; have HL392_2 := n1_; have HO395 := n2_; have HR392_2 := n3_; have HB := n4_; clear n0_ n1_ n2_ n3_ n4_; (try clear hb); (try clear hb2); (try clear hk); (try clear hi); (try clear ho0); obtain ⟨Ao394, co394, eo394⟩ := Kd.N_slice HO395.out; subst eo394; have p9 : 0 ≤ (x9_1 : Int) := of_decide_eq_true (by (with_reducible assumption)); have q9 : (x9_1 : Int) < ((x3_1.length : Int) : Int) := of_decide_eq_true (by (with_reducible assumption)); obtain ⟨go9, co9, eo9, gb9, gl9, cl9, HG9⟩ := Kd.N_form HO_3.out (by omega); (cases eo9); have GB9 := Aside0.mk gb9; have GG9 := Aside0.mk HG9; clear gb9 gl9 HG9; (simp only [add_plain] at hx392_0); (simp only [add_plain] at hx392_1); (simp only [add_plain] at hx392_2); obtain ⟨ce9, hcl9, hM9, hcc9, hfr9⟩ := Kd.N_elem HO_3.out z44 (x9_1 : Int) p9 q9; obtain ⟨ua9_2, uc9_2, rfl, ul9_2, ge9_2⟩ := k44_openF hM9; have hx9_0 : w10.cell? ⟨go9, (x9_1 : Int).toNat * 3, none⟩ = some (.int .i64 ((rd_T44 x3_1 x9_1).f0)) := hcc9 0 _ rfl; have hx9_1 : w10.cell? ⟨go9, (x9_1 : Int).toNat * 3 + 1, none⟩ = some (.string ((rd_T44 x3_1 x9_1).f1)) := hcc9 1 _ rfl; have hx9_2 : w10.cell? ⟨go9, (x9_1 : Int).toNat * 3 + 2, none⟩ = some (.slice ua9_2 ((rd_T44 x3_1 x9_1).f2).length uc9_2) := hcc9 2 _ rfl; have hf9_0 : w10.frozen? ⟨go9, (x9_1 : Int).toNat * 3, none⟩ = false := hfr9 0; have hf9_1 : w10.frozen? ⟨go9, (x9_1 : Int).toNat * 3 + 1, none⟩ = false := hfr9 1; have hf9_2 : w10.frozen? ⟨go9, (x9_1 : Int).toNat * 3 + 2, none⟩ = false := hfr9 2; clear hcl9 hcc9 hfr9 hM9; replace p9 := eq_true p9; replace q9 := eq_true q9; have HX11 := Aside0.mk (show Kd.N k44 44 w10 w.heap.size (fun k_ => (P0_ k_ ∨ w.heap.size ≤ k_)) (.slice (some ⟨go9, 0, none⟩) x3_1.length co4) x3_1 from (by exact Kd.N_mono HO_3.out (fun _ hk => hk.1))); obtain ⟨ce11, hcl11, hM11, hcc11, hfr11⟩ := Kd.N_elem HX11.out z44 (x9_1 : Int) (of_decide_eq_true (by (with_reducible assumption))) (by have h_ : (x9_1 : Int) < ((x3_1.length : Int) : Int) := of_decide_eq_true (by (with_reducible assumption)); exact h_); obtain ⟨ua11_2, uc11_2, rfl, ul11_2, ge11_2⟩ := k44_openF hM11; have HP11 := Kd.N_seg HX11.out (x9_1 : Int) (of_decide_eq_true (by (with_reducible assumption))) (by have h_ : (x9_1 : Int) < ((x3_1.length : Int) : Int) := of_decide_eq_true (by (with_reducible assumption)); exact h_) (seg := [(.slice Ao394 t393.length co394)]) (j := 2) hcl11 hcc11 (show 3 ≤ 3 from by decide) (x' := (⟨(rd_T44 x3_1 x9_1).f0, (rd_T44 x3_1 x9_1).f1, t393⟩ : S44)) (k44_mkF _ _ (⟨(rd_T44 x3_1 x9_1).f0, (rd_T44 x3_1 x9_1).f1, t393⟩ : S44) (Kd.N_reads' (Kd.N_mono (ok' := (fun k_ => ((fun k_ => (P0_ k_ ∨ w.heap.size ≤ k_))) k_ ∧ k_ ≠ go9)) (HO395.out) (fun k_ hk => ⟨hk.1, fun e_ => (hk.2) (by rw [e_]; rfl)⟩))).2.1 (Kd.N_F (Kd.N_mono (ok' := (fun k_ => ((fun k_ => (P0_ k_ ∨ w.heap.size ≤ k_))) k_ ∧ k_ ≠ go9)) (HO395.out) (fun k_ hk => ⟨hk.1, fun e_ => (hk.2) (by rw [e_]; rfl)⟩)))) (fun _ hk => hk); have hx11_2 := hcc11 2 _ rfl; (try simp only [show (k44).sz = 3 from rfl, Nat.mul_one, Nat.add_zero] at hx11_2); have hf11_2 := hfr11 2; (try simp only [show (k44).sz = 3 from rfl, Nat.mul_one, Nat.add_zero] at hf11_2); clear hcl11 hcc11 hfr11 hM11) | ((with_reducible refine gate_store (t := 22) (p := 21) rfl ?_); refine store_event (t := 22) (p := 21) (v := ?vo_w12) (w1 := (w10.setCell ⟨go9, (x9_1 : Int).toNat * 3 + 2, none⟩ ((.slice Ao394 t393.length co394)))) ?hg ?ho ?hn ?hr ?_; (case ho => rfl); (case hg => rfl); (case hn => rfl); (case hr => (go_simp; done)); intro w12 hw; have hg : w10.grownBy w12 (some go9) := (by rw [hw]; exact HP11.2); have hp_ : Kd.N k44 44 w12 w.heap.size (fun k_ => (P0_ k_ ∨ w.heap.size ≤ k_)) (.slice (some ⟨go9, 0, none⟩) x3_1.length co4) y396 := (by rw [hw, Ny396.out]; exact HP11.1); clear HP11; have n0_ := Aside0.mk (hp_); have n1_ := Aside0.mk (Kd.V_afterv (v := (.slice (some ⟨go9, 0, none⟩) x3_1.length co4)) (v1 := (.slice (some ⟨go9, 0, none⟩) x3_1.length co4)) (ok := (fun k_ => (P0_ k_ ∨ w.heap.size ≤ k_) ∧ some k_ ≠ ((.slice Ao394 t393.length co394) : Value).ownBlock)) (by exact Kd.V_mono HL392_2.out (fun _ hk => ⟨⟨hk.1.1, hk.2⟩, hk.1.2⟩)) hg (.inl rfl)); have n2_ := Aside0.mk ((by rw [hw]; exact q24 (HB.out) GB9.out : Below w.heap.size w w12)); clear HO_3; clear HL392_2; clear HB; clear HO395; have HO_3 := n0_; have HL392_2 := n1_; have HB := n2_; clear n0_ n1_ n2_; clear hg hw hp_))
            (try simp only [← hl3_1])
            go_roundg k1
            case measure => have := HK1.out; omega
            case rel => exact ⟨(y396), (wrap64 (x9_1 + 1)), (by rfl), H', ⟨by have := HK1.out; omega⟩, ⟨by (try simp only [hl3_1]); exact HO_3.out⟩, ⟨by with_reducible exact HB.out⟩⟩
          · rw [if_neg c7] at H; exact absurd H (by simp)
        · rw [if_neg c6] at H; exact absurd H (by simp)
      · rw [if_neg c5] at H; have c5b0 : decide (x9_1 < (t389.length : Int)) = false := decide_eq_false c5; clear c5
        have c5b1 : decide (x9_1 < (x3_1.length : Int)) = false := by rw [← hl3_1]; exact c5b0
        obtain rfl := Option.some.inj H
        go_wp2
        go_ret; exact ⟨_, by rfl, by exact HO_3.out, by with_reducible exact HB.out⟩
end Go.Proofs.Ytnffhiiihegjbaa.MD
