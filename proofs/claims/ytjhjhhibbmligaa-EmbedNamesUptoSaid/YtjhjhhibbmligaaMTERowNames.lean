/- The law EmbedNames: for every input of bulk at most 1048576 the call returns true, and the arguments read as before. Conditions: none beyond the statement's own. -/
import Derived.Test.YtjhjhhibbmligaaMTELNames
import Derived.WalkKit
import Derived.ProofKit
import Derived.OpenShut
import Derived.ShutString
import Derived.ChangeOld
import Derived.Below
import Derived.SizedLaws
import Derived.Deep.CondSized
namespace Go.Proofs.Ytjhjhhibbmligaa.TE.embedNames
open Go.ChangeShapes Go.WideShapes Go.ChangeAt Go.RowKit Go.Proofs.YtjhjhhibbmligaaW.PrintWords
open Go.ChangeMaps (open_string shut_string)
set_option linter.unusedVariables false
set_option linter.unusedSimpArgs false
theorem own : ownKnob Try.prog.godebug = none := by kernel_rfl
theorem laidOut : laidOutB Try.prog = true := by kernel_rfl
set_option maxRecDepth 100000 in
theorem lifted (os : Os) (started : os.Started) (H : Type) (enc : TypeId × Value → H) (F0 : Stop.Interp) :
    ReturnsInHanded {} Try.checked os 7 .any ((Rows.OpenSpec.upto Rows.embedNamesSpec).pre6 enc Try.prog Try.f7 Rows.embedNamesUptoRow.domain false) (((Rows.OpenSpec.upto Rows.embedNamesSpec).at F0).post enc Try.prog Try.f7 false true false false) := by
  refine returnsInHanded_of_cond_sized (C := Try.checked) (k := Rows.uptoSmall) rfl own started (by kernel_rfl) Try.func7
    (OpenSpec.witness (k := Rows.uptoSmall) rfl (enc := enc) (C := Try.checked) false ⟨#[], #[.slice none 0 0, .slice none 0 0, .slice none 0 0], []⟩ 8 (by kernel_rfl) (by kernel_rfl) (by kernel_rfl) (x := ([.nil, .nil, .nil], [], [])) (by kernel_rfl) (by kernel_rfl) (by kernel_rfl)) ?_
  intro W base args ds gs before hval0 hW hcnd hk hsz0 _; have hval : ∀ (j : Nat) t v, Try.f7.params[j]? = some t → args[j]? = some v → Value.okWide Try.prog W .any base t v := hval0; have hW' := hW; obtain ⟨p, q, hA0, hV, rfl, hfz, hnd⟩ := hW; have hA : DataW.TrodAll enc Try.prog W 0 (fun _ => true) true Try.f7.params.toList args.toList ds p := hA0; rw [Try.params7] at hA hval; obtain ⟨v0, vs0, d0, ds0, p0, q0, hargs, rfl, rfl, h0, r0⟩ := trodAll_cons hA; obtain ⟨v1, vs1, d1, ds1, p1, q1, rfl, rfl, rfl, h1, r1⟩ := trodAll_cons r0; obtain ⟨v2, vs2, d2, ds2, p2, q2, rfl, rfl, rfl, h2, r2⟩ := trodAll_cons r1; obtain ⟨rfl, rfl, rfl⟩ := trodAll_nil r2
  obtain rfl : args = #[v0, v1, v2] := by cases args; simp_all
  obtain ⟨rfl, rfl⟩ := trodVars_none hV; have hbulk : Rows.uptoBulkAll ([d0, d1, d2] ++ []) ≤ 1048576 := of_decide_eq_true hk; simp only [List.append_nil, Rows.uptoBulkAll] at hbulk; obtain ⟨a0, len0, cap0, rfl⟩ := okWide_slice Try.underlying22 (hval 0 22 v0 rfl rfl); have k0 := h0
  have lt0 : ∀ x ∈ p0, x.block < W.heap.size := by obtain ⟨m, hm⟩ := k0; exact DataW.trod_lt m _ _ _ hm
  obtain ⟨l0, A0, c0, e0, hc0, hr0, hb0, ok0⟩ : ∃ (l : List S42) (A : Option Addr) (c : Nat), Value.slice a0 len0 cap0 = .slice A l.length c ∧ l.length ≤ c ∧ k42.C W A l.length l ∧ bk42s l + 1 ≤ Rows.uptoBulk d0 ∧ ok42s l := by
    obtain ⟨fuel, hf⟩ := h0; obtain ⟨l, A, c, e, r⟩ := opSlice22 hf; exact ⟨l, A, c, (List.cons.inj (show [Value.slice a0 len0 cap0] = _ from e)).1, r⟩
  injection e0 with e0a e0b e0c
  subst e0a; subst e0b; subst e0c; obtain ⟨a1, len1, cap1, rfl⟩ := okWide_slice Try.underlying22 (hval 1 22 v1 rfl rfl); have k1 := h1
  have lt1 : ∀ x ∈ p1, x.block < W.heap.size := by obtain ⟨m, hm⟩ := k1; exact DataW.trod_lt m _ _ _ hm
  obtain ⟨l1, A1, c1, e1, hc1, hr1, hb1, ok1⟩ : ∃ (l : List S42) (A : Option Addr) (c : Nat), Value.slice a1 len1 cap1 = .slice A l.length c ∧ l.length ≤ c ∧ k42.C W A l.length l ∧ bk42s l + 1 ≤ Rows.uptoBulk d1 ∧ ok42s l := by
    obtain ⟨fuel, hf⟩ := h1; obtain ⟨l, A, c, e, r⟩ := opSlice22 hf; exact ⟨l, A, c, (List.cons.inj (show [Value.slice a1 len1 cap1] = _ from e)).1, r⟩
  injection e1 with e1a e1b e1c
  subst e1a; subst e1b; subst e1c; obtain ⟨a2, len2, cap2, rfl⟩ := okWide_slice Try.underlying22 (hval 2 22 v2 rfl rfl); have k2 := h2
  have lt2 : ∀ x ∈ p2, x.block < W.heap.size := by obtain ⟨m, hm⟩ := k2; exact DataW.trod_lt m _ _ _ hm
  obtain ⟨l2, A2, c2, e2, hc2, hr2, hb2, ok2⟩ : ∃ (l : List S42) (A : Option Addr) (c : Nat), Value.slice a2 len2 cap2 = .slice A l.length c ∧ l.length ≤ c ∧ k42.C W A l.length l ∧ bk42s l + 1 ≤ Rows.uptoBulk d2 ∧ ok42s l := by
    obtain ⟨fuel, hf⟩ := h2; obtain ⟨l, A, c, e, r⟩ := opSlice22 hf; exact ⟨l, A, c, (List.cons.inj (show [Value.slice a2 len2 cap2] = _ from e)).1, r⟩
  injection e2 with e2a e2b e2c
  subst e2a; subst e2b; subst e2c; clear hval0 hsz0 hk hA0
  refine (EmbedNames.calls _ _ l0 _ _ l1 _ _ l2 W hr0 hc0 hr1 hc1 hr2 hc2 ok0 ok1 ok2 (by omega : bk42s l0 + bk42s l1 + bk42s l2 ≤ 1048576)).mono fun e W' hq => ?_
  obtain ⟨he, bel⟩ := hq; subst he; exact ⟨_, rfl, _, _, _, [], _, [], hW', trodAll_mk1 (shut_bool Try.underlying4 _), (trodAll_cons_mk (Below.trod laidOut (by kernel_rfl) (of_decide_eq_true (by kernel_rfl)) k0 bel lt0) (trodAll_cons_mk (Below.trod laidOut (by kernel_rfl) (of_decide_eq_true (by kernel_rfl)) k1 bel lt1) (trodAll_cons_mk (Below.trod laidOut (by kernel_rfl) (of_decide_eq_true (by kernel_rfl)) k2 bel lt2) trodAll_mk0))), rfl, Below.frame bel _, fun h => by cases h⟩
theorem proved : Rows.EmbedNamesUptoSaid :=
  OpenClaim.holds_of_cond 7 Try.f7 rfl rfl rfl rfl rfl rfl rfl ⟨rfl, rfl, rfl, rfl, rfl⟩ rfl rfl rfl rfl rfl (by kernel_rfl) Try.func7 (by kernel_rfl)
    (of_decide_eq_true (by kernel_rfl)) (by unfold Func.isWrapper; first | (rw [if_pos (by decide +kernel)]; kernel_rfl) | (rw [if_neg (by decide +kernel)]; exact ⟨rfl, rfl⟩))
    (fun os started H enc _ F0 => lifted os started H enc F0)
#print axioms proved
end Go.Proofs.Ytjhjhhibbmligaa.TE.embedNames
namespace Go.Proofs.Ytjhjhhibbmligaa
theorem embedNames_holds : Rows.EmbedNamesUptoSaid := TE.embedNames.proved
end Go.Proofs.Ytjhjhhibbmligaa
