import Derived.Test.YtlopceimlipemaaRM3
import Derived.Test.YtlopceimlipemaaRM2
/- RopeSteps: whatever ropes are made, each one has the elements of the reference's list. -/
namespace Go.Proofs.Ytlopceimlipemaa.Rope
open Go.RowKit Go.Proofs.YtlopceimlipemaaW.PrintWords Go.Proofs.YtlopceimlipemaaW.PrintLast Go.Proofs.YtlopceimlipemaaW.PrintMore Go.Shelf
set_option linter.unusedVariables false
set_option linter.unusedSimpArgs false

theorem below_alloc2 {w X : World} (h : Below w.heap.size w X) (o : Obj) : Below w.heap.size w (X.alloc o) := h.alloc h.size o
theorem op_cells5 {W : World} {b : Nat} {o : Op5} (h : W.heap[b]? = some (.cells #[.int .u8 o.kind, .int .u8 o.rope, .int .u8 o.other, .int .i64 o.f, .int .i64 o.t] 58 (0, 0))) : W.cell? ⟨b, 0, none⟩ = some (.int .u8 o.kind) ∧ W.cell? ⟨b, 1, none⟩ = some (.int .u8 o.rope) ∧ W.cell? ⟨b, 2, none⟩ = some (.int .u8 o.other) ∧ W.cell? ⟨b, 3, none⟩ = some (.int .i64 o.f) ∧ W.cell? ⟨b, 4, none⟩ = some (.int .i64 o.t) :=
  ⟨(blk_cell h 0).trans rfl, (blk_cell h 1).trans rfl, (blk_cell h 2).trans rfl, (blk_cell h 3).trans rfl, (blk_cell h 4).trans rfl⟩
theorem smallB_le : ∀ (ls : List (List Int)) (ops : List Op5), smallB ls ops = true → ∀ (k : Nat) (o : Op5), ops[k]? = some o → (modelP (mAll ls (ops.take k)) o).length ≤ 2000
  | ls, [], _, k, o, hk => by simp at hk
  | ls, a :: r, h, k, o, hk => by
    simp only [smallB] at h
    split at h
    · cases h
    · rename_i hc
      cases k with
      | zero =>
        obtain rfl : a = o := by simpa using hk
        simp only [List.take_zero, mAll]; omega
      | succ k => exact smallB_le (ls ++ [modelP ls a]) r h k o (by simpa using hk)
theorem alloc_old2 {W : World} {k : Nat} {c : Obj} (h : W.heap[k]? = some c) (o : Obj) : (W.alloc o).heap[k]? = some c := (Below.heap_alloc _ _ _ (Array.getElem?_eq_some_iff.1 h).1).trans h
theorem below_al (W : World) (o : Obj) : Below W.heap.size W (W.alloc o) := (Below.refl _ _).alloc (Nat.le_refl _) _
theorem lists_len (qs : List Rp) : (lists qs).length = qs.length := by simp [lists]
set_option maxRecDepth 100000 in
set_option maxHeartbeats 4000000 in
theorem Steps1.calls (A : Option Addr) (n c : Nat) (l : List Int) (B : Option Addr) (no bc : Nat) (ops : List Op5) (w : World) (hC : D_int.C w A n l) (hl : l.length = n) (hc : n ≤ c) (hA : A = none → c = 0) (hO : OpsC w B no ops) (hol : ops.length = no) (hbc : no ≤ bc) (hok : ∀ o ∈ ops, o.ok) (hsm : smallAll l ops = true) :
    Calls Try.prog 8 #[.slice A n c, .slice B no bc] w fun e w' => e = .returned (.bool true) ∧ Below w.heap.size w w' := by
  obtain ⟨hn, hno, hsb⟩ : n ≤ 500 ∧ no ≤ 60 ∧ smallB [l] ops = true := by
    unfold smallAll at hsm
    split at hsm
    · cases hsm
    · exact ⟨by omega, by omega, hsm⟩
  obtain ⟨i0, hi, hz0, hz1, hz2⟩ := info_parts info_ints
  obtain ⟨j0, hj, hy0, hy1, hy2⟩ := info_parts info_ropes
  have HC := Aside0.mk hC
  have HL := Aside0.mk hl
  have HA := Aside0.mk hA
  have HO := Aside0.mk hO
  have HOL := Aside0.mk hol
  have HOK := Aside0.mk hok
  have HSM := Aside0.mk hsm
  have HSB := Aside0.mk hsb
  have E1 : Aside0 (n ≤ 4611686018427387904) := ⟨by omega⟩
  obtain ⟨T, hT⟩ : ∃ T, T = buildT l := ⟨_, rfl⟩
  have HT := Aside0.mk hT
  clear hC hl hA hO hol hok hsm hsb hT
  go_enter Try.func8, Try.ntmps8
  go_wp2_with fail
  refine (small.calls A n c l B no bc ops w HC.out HL.out hc HA.out HO.out HOL.out hbc HOK.out).mono ?_
  rintro e w1 ⟨rfl, hb1⟩
  rw [HSM.out]
  have B1 := Aside0.mk hb1
  clear hb1
  go_wp2_with fail
  refine (Of_int.calls A c n l w1 HL.out (Kd.C_below HC.out B1.out) hc E1.out).mono ?_
  rintro e w2 ⟨g, rfl, hO2, hb2⟩
  rw [← HT.out] at hO2
  have B2 := Aside0.mk (below_step B1.out hb2)
  have O2 := Aside0.mk hO2
  clear hb2 hO2
  go_wp2_with fail
  have hq0 : Ropes w.heap.size (w2.alloc (.cells #[.pointer g] 26)) (.slice (some ⟨w2.heap.size, 0, none⟩) 1 1) [⟨g, T⟩] := ropes_first w.heap.size w2 ⟨g, T⟩ B2.out.size ⟨O2.out, by rw [HT.out]; exact buildT_ok l, by rw [HT.out, ← listO_len, buildT_list, HL.out]; omega⟩
  have hb3 : Below w2.heap.size w2 (w2.alloc (.cells #[.pointer g] 26)) := (Below.refl _ _).alloc (Nat.le_refl _) _
  have hr0 := rows2_first w (w2.alloc (.cells #[.pointer g] 26)) ⟨A, n, c, l⟩ (below_step B2.out hb3).size ⟨HL.out, hc, HA.out, Nat.le_trans hn (by decide), .inl HC.out⟩
  rw [World.size_alloc] at hr0
  have hb4 : Below (w2.alloc (.cells #[.pointer g] 26)).heap.size (w2.alloc (.cells #[.pointer g] 26)) ((w2.alloc (.cells #[.pointer g] 26)).alloc (.cells #[.slice A n c] 22)) := (Below.refl _ _).alloc (Nat.le_refl _) _
  have hq1 := hq0.keep (KeepE.below hb4) (KeepE.below hb4)
  have hbw := below_step (below_step B2.out hb3) hb4
  have HQ1 := Aside0.mk hq1
  have HR1 := Aside0.mk hr0
  have HBW := Aside0.mk hbw
  clear hq0 hb3 hr0 hb4 hq1 hbw
  go_loopw [5, 6, 22] (fun v5 v6 u wr => ∃ (k : Nat) (qs : List Rp) (es : List Ent), u = .int .i64 k ∧ k ≤ no ∧ qs.length = k + 1 ∧ es.length = k + 1 ∧ Aside0 (lists qs = mAll [l] (ops.take k)) ∧ Aside0 (es.map Ent.l = mAll [l] (ops.take k)) ∧ Aside0 (Ropes w.heap.size wr v5 qs) ∧ Aside0 (Rows2 w.heap.size w wr v6 es) ∧ Aside0 (Below w.heap.size w wr)) (fun v5 v6 u wr => no - (intOf u).toNat)
  case atStart => exact ⟨0, [⟨g, T⟩], [⟨A, n, c, l⟩], rfl, Nat.zero_le _, rfl, rfl, ⟨by rw [HT.out]; simp [lists, mAll, buildT_list]⟩, ⟨rfl⟩, HQ1, HR1, HBW⟩
  case round =>
    obtain ⟨k, qs, es, rfl, hk, hqs, hes, HLQ, HLE, HQ, HE, HBr⟩ := hrel
    by_cases hlt : k < no
    · have hlb : decide ((k : Int) < (no : Int)) = true := by simp; omega
      have hlb2 : decide (k < no) = true := by simp; omega
      obtain ⟨o, ho⟩ : ∃ o, ops[k]? = some o := ⟨_, List.getElem?_eq_getElem (by rw [HOL.out]; exact hlt)⟩
      obtain ⟨bd, hbd, o0, o1, o2, o3, o4⟩ := (HO.out.below HBr.out).at ho
      subst hbd
      obtain ⟨g5, c5, rfl, _, _, _⟩ := HQ.out.at_ (by omega)
      obtain ⟨g6, c6, rfl, _, _, _⟩ := HE.out.at_ (by omega)
      have hq61 : qs.length ≤ 61 := by omega
      have he61 : es.length ≤ 61 := by omega
      have hq0 : 0 < qs.length := by omega
      have he0 : 0 < es.length := by omega
      have HQS := Aside0.mk hqs
      have HES := Aside0.mk hes
      clear hqs hes
      have hk0 : (0 : Int) ≤ (k : Int) := Int.natCast_nonneg _
      have hkn : (k : Int) < (no : Int) := by omega
      have HOO := Aside0.mk ho
      clear ho
      go_wp2_with fail
      have hba : Below wr.heap.size wr (wr.alloc (.cells #[.int .u8 o.kind, .int .u8 o.rope, .int .u8 o.other, .int .i64 o.f, .int .i64 o.t] 58)) := (Below.refl _ _).alloc (Nat.le_refl _) _
      have hHn := heap_new wr (.cells #[.int .u8 o.kind, .int .u8 o.rope, .int .u8 o.other, .int .i64 o.f, .int .i64 o.t] 58)
      obtain ⟨Wa, hWa⟩ : ∃ W, wr.alloc (.cells #[.int .u8 o.kind, .int .u8 o.rope, .int .u8 o.other, .int .i64 o.f, .int .i64 o.t] 58) = W := ⟨_, rfl⟩
      rw [hWa] at hba hHn ⊢
      have hBn := below_step HBr.out hba
      have hqd := (HQ.out.keep (KeepE.below hba) (KeepE.below hba)).keep (W' := Wa.drew) (KeepE.below (below_drew (Below.refl _ _))) (KeepE.below (below_drew (Below.refl _ _)))
      have hed := (HE.out.keep (KeepE.below hba) (KeepE.below hba)).keep (W' := Wa.drew) (KeepE.below (below_drew (Below.refl _ _))) (KeepE.below (below_drew (Below.refl _ _)))
      obtain ⟨_, _, heq5, T', hT', hTok, hstep⟩ := step_at hqd hq0 (Nat.le_trans hq61 (by decide)) o (HOK.out o (List.mem_of_getElem? HOO.out))
      have hle2 : (modelP (mAll [l] (ops.take k)) o).length ≤ 2000 := smallB_le _ _ HSB.out k o HOO.out
      have htl : listO T' = modelP (mAll [l] (ops.take k)) o := by rw [hT', HLQ.out]
      have htk : ops.take (k + 1) = ops.take k ++ [o] := by rw [List.take_add_one, HOO.out]; rfl
      have HTL := Aside0.mk htl
      have HTK := Aside0.mk htk
      have HLE2 := Aside0.mk hle2
      have HQD := Aside0.mk hqd
      have HED := Aside0.mk hed
      have HSTEP := Aside0.mk hstep
      have HTOK := Aside0.mk hTok
      have hml : modelP (es.map Ent.l) o = modelP (mAll [l] (ops.take k)) o := by rw [HLE.out]
      have HML := Aside0.mk hml
      have HRP : Aside0 (∀ (g1 : Option Addr) (W : World), IsO K_int W g1 T' → (⟨g1, T'⟩ : Rp).ok W) := ⟨fun g1 W h => ⟨h, HTOK.out, by show lenO T' ≤ 2000; rw [← listO_len, HTL.out]; exact HLE2.out⟩⟩
      clear heq5 hWa hba o0 o1 o2 o3 o4 hqd hed hstep hT' htl htk hle2 hTok hml
      have hBn0 : Below w.heap.size w Wa.drew := below_drew hBn
      have hHn0 : Wa.drew.heap[wr.heap.size]? = some (.cells #[.int .u8 o.kind, .int .u8 o.rope, .int .u8 o.other, .int .i64 o.f, .int .i64 o.t] 58 (0, 0)) := hHn
      have HBN := Aside0.mk hBn0
      have HHN := Aside0.mk hHn0
      clear hBn hHn hBn0 hHn0
      go_region_held3 (fun W' => Below w.heap.size w W' ∧ W'.heap[wr.heap.size]? = some (.cells #[.int .u8 o.kind, .int .u8 o.rope, .int .u8 o.other, .int .i64 o.f, .int .i64 o.t] 58 (0, 0)) ∧ W'.cell? ⟨wr.heap.size, 0, none⟩ = some (.int .u8 o.kind) ∧ W'.cell? ⟨wr.heap.size, 1, none⟩ = some (.int .u8 o.rope) ∧ W'.cell? ⟨wr.heap.size, 2, none⟩ = some (.int .u8 o.other) ∧ W'.cell? ⟨wr.heap.size, 3, none⟩ = some (.int .i64 o.f) ∧ W'.cell? ⟨wr.heap.size, 4, none⟩ = some (.int .i64 o.t))
        ((go_split_ands; first | exact ⟨HB4.out, HH4.out, op_cells5 HH4.out⟩ | exact ⟨below_alloc2 HB3.out _, alloc_old2 HH3.out _, op_cells5 (alloc_old2 HH3.out _)⟩ | exact ⟨HB3.out, HH3.out, op_cells5 HH3.out⟩ | exact ⟨HB2.out, HH2.out, op_cells5 HH2.out⟩ | exact ⟨below_alloc2 HB1.out _, alloc_old2 HH1.out _, op_cells5 (alloc_old2 HH1.out _)⟩ | exact ⟨HB1.out, HH1.out, op_cells5 HH1.out⟩ | exact ⟨HBN.out, HHN.out, op_cells5 HHN.out⟩))
        (first
          | (go_at_call 32; refine HSTEP.out.mono ?_; rintro e V1 ⟨g1, rfl, hO1, hb1⟩; have HB1 := Aside0.mk (below_step HBN.out hb1); have HH1 := Aside0.mk (blk_below HHN.out hb1); have HQ2 := Aside0.mk ((HQD.out.keep (KeepE.below hb1) (KeepE.below hb1)).keep (KeepE.below (below_al V1 (.cells #[.pointer g1] 26))) (KeepE.below (below_al V1 (.cells #[.pointer g1] 26)))); have HE2 := Aside0.mk ((HED.out.keep (KeepE.below hb1) (KeepE.below hb1)).keep (KeepE.below (below_al V1 (.cells #[.pointer g1] 26))) (KeepE.below (below_al V1 (.cells #[.pointer g1] 26)))); have HO1 := Aside0.mk (Rp.ok.keep (HRP.out g1 V1 hO1) (KeepE.below (below_al V1 (.cells #[.pointer g1] 26)))); clear hO1 hb1)
          | (have hrow2 := HQ2.out.row; refine step_append_own1 _ rfl _ _ 56 rfl w.heap.size 26 j0 (.agg #[.pointer none]) 1 8 Try.underlying56 hj hy0 hy1 hy2 rfl (by decide) _ _ _ rfl hrow2 ⟨V1.heap.size, 0, none⟩ 1 1 [.pointer g1] rfl rfl (cell_one_new _ _ _) (by simp [Value.oneCell']) (by simp only [maxLen]; omega) (by omega) (by have := HB1.out.size; simp; omega) ?_; intro v5 V2 hown5 hgrow5; have HQ3 := Aside0.mk (ropes_snoc HQ2.out HO1.out hown5 hgrow5); have HE3 := Aside0.mk (HE2.out.keep (KeepE.grown hgrow5 HQ2.out.row (by decide)) (KeepE.grown hgrow5 HQ2.out.row (by decide))); have HB2 := Aside0.mk ((below_alloc2 HB1.out (.cells #[.pointer g1] 26)).grown hgrow5 (below_alloc2 HB1.out _).size (fun kk e => own_base HQ2.out.row e)); have HH2 := Aside0.mk (KeepE.grown hgrow5 HQ2.out.row (by decide) _ _ (alloc_old2 HH1.out (.cells #[.pointer g1] 26))); obtain ⟨_, _, heq6, e1, he1, hmodel⟩ := model_at HE3.out HB2.out he0 (Nat.le_trans he61 (by decide)) o (HOK.out o (List.mem_of_getElem? HOO.out)); have HMODEL := Aside0.mk hmodel; have HE1 := Aside0.mk he1; clear heq6 hown5 hgrow5 hmodel he1 hrow2 HQ2 HE2 HO1)
          | (go_at_call 35; refine HMODEL.out.mono ?_; rintro e V3 ⟨A', k', c', rfl, m1, m2, m3, m4, hb3, m6⟩; have HB3 := Aside0.mk (below_step HB2.out hb3); have HH3 := Aside0.mk (blk_below HH2.out hb3); have hen := ent_new (HE3.out.each e1 HE1.out) m1 m2 m3 m4 hb3 HB2.out HB2.out.size m6 (by have := HLE2.out; have := HML.out; rw [← m1, this]; assumption); have HEN := Aside0.mk (hen.keep (KeepE.below (below_al V3 (.cells #[.slice A' k' c'] 22)))); have HQ4 := Aside0.mk ((HQ3.out.keep (KeepE.below hb3) (KeepE.below hb3)).keep (KeepE.below (below_al V3 (.cells #[.slice A' k' c'] 22))) (KeepE.below (below_al V3 (.cells #[.slice A' k' c'] 22)))); have HE4 := Aside0.mk ((HE3.out.keep (KeepE.below hb3) (KeepE.below hb3)).keep (KeepE.below (below_al V3 (.cells #[.slice A' k' c'] 22))) (KeepE.below (below_al V3 (.cells #[.slice A' k' c'] 22)))); clear m1 m2 m3 m4 m6 hb3 hen)
          | (have hrow4 := HE4.out.row; refine step_append_own1 _ rfl _ _ 62 rfl w.heap.size 22 i0 (.slice none 0 0) 1 24 Try.underlying62 hi hz0 hz1 hz2 rfl (by decide) _ _ _ rfl hrow4 ⟨V3.heap.size, 0, none⟩ 1 1 [.slice A' k' c'] rfl rfl (cell_one_new _ _ _) (by simp [Value.oneCell']) (by simp only [maxLen]; omega) (by omega) (by have := HB3.out.size; simp; omega) ?_; intro v6 V4 hown6 hgrow6; have HE5 := Aside0.mk (rows2_snoc HE4.out HEN.out hown6 hgrow6); have HQ5 := Aside0.mk (HQ4.out.keep (KeepE.grown hgrow6 HE4.out.row (by decide)) (KeepE.grown hgrow6 HE4.out.row (by decide))); have HB4 := Aside0.mk ((below_alloc2 HB3.out (.cells #[.slice A' k' c'] 22)).grown hgrow6 (below_alloc2 HB3.out _).size (fun kk e => own_base HE4.out.row e)); have HH4 := Aside0.mk (KeepE.grown hgrow6 HE4.out.row (by decide) _ _ (alloc_old2 HH3.out (.cells #[.slice A' k' c'] 22))); clear hown6 hgrow6 hrow4))
      go_wp2_with fail
      refine ⟨⟨k + 1, qs ++ [⟨g1, T'⟩], es ++ [⟨A', k', c', modelP (es.map Ent.l) o⟩], by go_num, by omega, by rw [List.length_append, HQS.out]; rfl, by rw [List.length_append, HES.out]; rfl, ⟨?_⟩, ⟨?_⟩, HQ5, HE5, HB4⟩, by simp [intOf]; omega⟩
      · rw [HTK.out, mAll_snoc, ← HTL.out, ← HLQ.out]; simp [lists]
      · rw [HTK.out, mAll_snoc, List.map_append, HLE.out, ← HML.out]; rfl
    · obtain rfl : k = no := by omega
      have hlb : decide ((k : Int) < (k : Int)) = false := by simp
      have hlb2 : decide (k < k) = false := by simp
      obtain ⟨g5, c5, rfl, _, hqc, hcq⟩ := HQ.out.at_ (by omega)
      obtain ⟨g6, c6, rfl, _, hec, hce⟩ := HE.out.at_ (by omega)
      have hle : es.length = qs.length := by omega
      have hq61 : qs.length ≤ 61 := by omega
      have hq0 : (0 : Int) ≤ (qs.length : Int) := Int.natCast_nonneg _
      have HLEN := Aside0.mk hle
      have HCQ := Aside0.mk hcq
      have HCE := Aside0.mk hce
      have HQC := Aside0.mk hqc
      have HEC := Aside0.mk hec
      have HLL : Aside0 (es.map Ent.l = lists qs) := ⟨by rw [HLE.out, HLQ.out]⟩
      clear hqs hes hle hcq hce hqc hec
      go_wp2_with fail
      obtain ⟨wo, hwo⟩ : ∃ wo : World, wo = wr := ⟨_, rfl⟩
      subst hwo
      go_loopw [41] (fun u w3 => ∃ i : Nat, u = .int .i64 i ∧ i ≤ qs.length ∧ Aside0 (Below wo.heap.size wo w3)) (fun u w3 => qs.length - (intOf u).toNat)
      case atStart => exact ⟨0, rfl, Nat.zero_le _, ⟨Below.refl _ _⟩⟩
      case round =>
        obtain ⟨i, rfl, hi, HBi⟩ := hrel
        by_cases hlt : i < qs.length
        · have hlb : decide ((i : Int) < (qs.length : Int)) = true := by simp; omega
          have hlb2 : decide (i < qs.length) = true := by simp; omega
          obtain ⟨q, hq⟩ : ∃ q, qs[i]? = some q := ⟨_, List.getElem?_eq_getElem hlt⟩
          obtain ⟨e, he⟩ : ∃ e, es[i]? = some e := ⟨_, List.getElem?_eq_getElem (by rw [HLEN.out]; exact hlt)⟩
          have y1 : wr.cell? ⟨g5, i, none⟩ = some (.pointer q.p) := by
            have := pw_cell_below HBi.out (HCQ.out i q hq)
            rwa [add_off, Nat.zero_add] at this
          have y2 : wr.cell? ⟨g6, i, none⟩ = some (.slice e.A e.n e.c) := by
            have := pw_cell_below HBi.out (HCE.out i e he)
            rwa [add_off, Nat.zero_add] at this
          have hqo := (HQ.out.each q (List.mem_of_getElem? hq)).keep (KeepE.below HBi.out)
          have heo := (HE.out.each e (List.mem_of_getElem? he)).keep (KeepE.below HBi.out)
          have hbi := below_step HBr.out HBi.out
          have hll : listO q.T = e.l := by
            have h1 := congrArg (fun L => L[i]?) HLL.out
            simp only [lists, List.getElem?_map, hq, he, Option.map_some, Option.some.injEq] at h1
            exact h1.symm
          have hn8 : e.n * 8 ≤ 140737488351232 := by have := heo.most; omega
          have hC1 := heo.C hbi
          have hi0 : (0 : Int) ≤ (i : Int) := Int.natCast_nonneg _
          have hin : (i : Int) < (qs.length : Int) := by omega
          have hin2 : (i : Int) < (es.length : Int) := by have := HLEN.out; omega
          have hin3 : i < es.length := by have := HLEN.out; omega
          have HQO := Aside0.mk hqo
          have HEO := Aside0.mk heo
          have HLS := Aside0.mk hll
          have HN8 := Aside0.mk hn8
          have HC1 := Aside0.mk hC1
          have HBI := Aside0.mk hbi
          clear hq he hqo heo hbi hll hn8 hC1
          go_wp2_with fail
          go_region_held3 (fun W' => Below wr.heap.size wr W' ∧ W'.cell? ⟨g5, i, none⟩ = some (.pointer q.p) ∧ W'.cell? ⟨g6, i, none⟩ = some (.slice e.A e.n e.c))
            ((go_split_ands; first | exact ⟨below_drew (Below.refl _ _), y1, y2⟩ | exact ⟨below_step (by assumption) hb7, pw_cell_below hb7 (by assumption), pw_cell_below hb7 (by assumption)⟩))
            (first
              | (go_at_call 17; go_split_ands; refine (alike.calls q.p q.T e.A e.n e.c e.l _ (IsO.below (by assumption) HQO.out.is) HLS.out HEO.out.len (Kd.C_below HC1.out (by assumption)) HEO.out.cap HN8.out).mono ?_; rintro e7 W7 ⟨rfl, hb7⟩))
          have hb8 : Below wr.heap.size wr W7 := by go_split_ands; assumption
          have HB8 := Aside0.mk (below_step HBi.out hb8)
          go_wp2_with fail
          refine ⟨⟨i + 1, by go_num, by omega, HB8⟩, by simp [intOf]; omega⟩
        · obtain rfl : i = qs.length := by omega
          have hlb : decide ((qs.length : Int) < (qs.length : Int)) = false := by simp
          have hlb2 : decide (qs.length < qs.length) = false := by simp
          go_wp2_with fail
          refine (awake.calls wr).mono ?_
          rintro e9 W9 ⟨rfl, hb9⟩
          have HB9 := Aside0.mk (below_step (below_step HBr.out HBi.out) hb9)
          clear hb9
          go_wp2_with fail
          go_ret
          exact ⟨rfl, HB9.out⟩

end Go.Proofs.Ytlopceimlipemaa.Rope

/- RopeSteps: the row's contract. -/
namespace Go.Proofs.Ytlopceimlipemaa.Rope
open Go.RowKit Go.Proofs.YtlopceimlipemaaW.PrintWords Go.Proofs.YtlopceimlipemaaW.PrintLast Go.Proofs.YtlopceimlipemaaW.PrintMore Go.Shelf
set_option linter.unusedVariables false
set_option linter.unusedSimpArgs false
set_option maxRecDepth 100000 in
set_option maxHeartbeats 4000000 in
theorem Steps0.calls (A : Option Addr) (n c : Nat) (l : List Int) (B : Option Addr) (no bc : Nat) (ops : List Op5) (w : World) (hC : D_int.C w A n l) (hl : l.length = n) (hc : n ≤ c) (hA : A = none → c = 0) (hO : OpsC w B no ops) (hol : ops.length = no) (hbc : no ≤ bc) (hok : ∀ o ∈ ops, o.ok) (hsm : smallAll l ops = false) :
    Calls Try.prog 8 #[.slice A n c, .slice B no bc] w fun e w' => e = .returned (.bool true) ∧ Below w.heap.size w w' := by
  have hcall := small.calls A n c l B no bc ops w hC hl hc hA hO hol hbc hok
  rw [hsm] at hcall
  have HCALL := Aside0.mk hcall
  clear hcall hC hl hA hO hol hok hsm
  go_enter Try.func8, Try.ntmps8
  go_wp2_with fail
  refine HCALL.out.mono ?_
  rintro e w1 ⟨rfl, hb1⟩
  have HB1 := Aside0.mk hb1
  clear hb1
  go_wp2_with fail
  refine (awake.calls w1).mono ?_
  rintro e w2 ⟨rfl, hb2⟩
  have HB2 := Aside0.mk (below_step HB1.out hb2)
  clear hb2
  go_wp2_with fail
  go_ret
  exact ⟨rfl, HB2.out⟩
theorem Steps.row (A : Option Addr) (c : Nat) (l : List Int) (B : Option Addr) (bc : Nat) (ops : List Op5) (w : World) (hC : D_int.C w A l.length l) (hc : l.length ≤ c) (_ : l.length * 8 ≤ 140737488351232) (hA : A = none → c = 0) (hO : OpsC w B ops.length ops) (hbc : ops.length ≤ bc) (hok : ∀ o ∈ ops, o.ok) :
    Calls Try.prog 8 #[.slice A l.length c, .slice B ops.length bc] w fun e w' => e = .returned (.bool true) ∧ Below w.heap.size w w' := by
  cases h : smallAll l ops with
  | true => exact Steps1.calls A _ c l B _ bc ops w hC rfl hc hA hO rfl hbc hok h
  | false => exact Steps0.calls A _ c l B _ bc ops w hC rfl hc hA hO rfl hbc hok h

end Go.Proofs.Ytlopceimlipemaa.Rope
