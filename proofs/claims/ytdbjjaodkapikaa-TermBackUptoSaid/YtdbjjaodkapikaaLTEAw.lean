/- Packed: Parse of the example; awake. -/
import Derived.Test.YtdbjjaodkapikaaLTERt3
import Derived.Test.YtdbjjaodkapikaaLTEPq
import Derived.Test.YtdbjjaodkapikaaLTEParse6
import Derived.Test.YtdbjjaodkapikaaLTEWrites
import Derived.Test.YtdbjjaodkapikaaLShelf
import Derived.Test.YtdbjjaodkapikaaLTEIb
import Derived.Deep.LoopGhost
section
namespace Go.Proofs.Ytdbjjaodkapikaa.TE
open Go.RowKit Go.Shelf Go.Proofs.YtdbjjaodkapikaaW.PrintWords Go.Proofs.YtdbjjaodkapikaaW.PrintLast Go.Proofs.YtdbjjaodkapikaaW.PrintMore Go.Proofs.Ytdbjjaodkapikaa.Evs
set_option linter.unusedVariables false
set_option linter.unusedSimpArgs false
theorem PS.begin0 {W W0 : World} {s : ByteArray} (hn0 : W0.heap[W.heap.size]? = some (.cells #[.string s, .int .i64 0, .int .i64 (-1), .slice none 0 0, .slice none 0 0] 72 (0, 0))) (hb0 : Below W.heap.size W W0) : PS W W0 W.heap.size s ((0 : Nat) : Int) (-1) [] [] :=
  ⟨hb0, Nat.le_refl _, .slice none 0 0, .slice none 0 0, [], rfl, hn0, World.ownsRow_nil _ _ _ _, fun _ => False, fun _ h => h.elim, TR.nil _ _ _, trivial⟩
theorem PS.ends {w0 W : World} {g : Nat} {s : ByteArray} {a fault : Int} {l : List Tm} {st : List Op} (h : PS w0 W g s a fault l st) : ∃ A c As cs, W.cell? ⟨g, 3, none⟩ = some (.slice A l.length c) ∧ W.cell? ⟨g, 4, none⟩ = some (.slice As st.length cs) ∧ l.length ≤ c ∧ Kd.C k42 W A l.length l := by
  obtain ⟨vl, vs, avs, h1, h2, h3, ok, o1, o2, o3⟩ := h.mem; replace o2 : TR W w0.heap.size ok vl l := o2; obtain ⟨As, cs, rfl⟩ := own_formN h3; obtain ⟨A, c, rfl, hc⟩ := o2.slice; obtain ⟨_, _, hF⟩ := o2.foot; exact ⟨A, c, As, cs, h2.cells.2.2.2.1, h2.cells.2.2.2.2, hc, hF W (fun _ _ _ => rfl)⟩
set_option maxRecDepth 100000 in
set_option maxHeartbeats 4000000 in
theorem Parse.calls (s : ByteArray) (W : World) : Calls Try.prog 14 #[.string s] W fun e W' => ∃ A c, e = .returned (.tuple #[.slice A (parseS s).1.length c, .int .i64 (parseS s).2.1, .int .i64 (parseS s).2.2]) ∧ (parseS s).1.length ≤ c ∧ Kd.C k42 W' A (parseS s).1.length (parseS s).1 ∧ Below W.heap.size W W' := by
  by_cases h4 : 40000 < s.size
  · have e1 : decide ((40000 : Int) < (s.size : Int)) = true := decide_eq_true (by omega); have HD : Aside0 (parseS s = ([], 0, 7)) := ⟨by unfold parseS; rw [if_pos h4]⟩; clear h4
    go_enter Try.func14, Try.ntmps14
    go_wp2_with fail
    go_step3
    go_wp2_with fail
    (try rw [Exit.noGoto_ret])
    go_ret3
    rw [HD.out]; exact ⟨none, 0, rfl, Nat.le_refl _, Kd.C_nil _ _, Below.refl _ _⟩
  · have e1 : decide ((40000 : Int) < (s.size : Int)) = false := decide_eq_false (by omega); obtain ⟨P, hP⟩ : ∃ P, P = parF s (s.size + 2) 0 (-1) [] [] := ⟨_, rfl⟩; have HD : Aside0 (parseS s = if P.1 = true then (if P.2.2.2.length = 0 then (if checkS 8 P.2.2.1 = 0 then (P.2.2.1, 0, 0) else ([], 0, checkS 8 P.2.2.1)) else ([], (s.size : Int), 3)) else ([], P.2.1, 3)) := ⟨by unfold parseS; rw [if_neg h4, ← hP]⟩; have HP := Aside0.mk hP
    have hs : s.size ≤ 40000 := by omega
    have HS := Aside0.mk hs; clear hP h4 hs
    go_enter Try.func14, Try.ntmps14
    go_wp2_with fail
    go_step3
    go_wp2_with fail
    go_step3
    go_wp2_with fail
    have hn0 := World.alloc_heap_new W (.cells #[.string s, .int .i64 0, .int .i64 (-1), .slice none 0 0, .slice none 0 0] 72); have hb0 : Below W.heap.size W (W.alloc (.cells #[.string s, .int .i64 0, .int .i64 (-1), .slice none 0 0, .slice none 0 0] 72)) := (Below.refl _ _).alloc (Nat.le_refl _) _; obtain ⟨W0, hW0⟩ : ∃ W0, W.alloc (.cells #[.string s, .int .i64 0, .int .i64 (-1), .slice none 0 0, .slice none 0 0] 72) = W0 := ⟨_, rfl⟩; rw [hW0] at hn0 hb0 ⊢; have HPS0 := Aside0.mk (PS.begin0 hn0 hb0); obtain ⟨g, hg⟩ : ∃ g, g = W.heap.size := ⟨_, rfl⟩; rw [← hg] at HPS0 ⊢; clear hn0 hb0 hW0 hg
    go_loopg [] (s.size + 2) (fun gk wr_ => ∃ (a : Nat) (fault : Int) (l : List Tm) (st : List Op), a ≤ s.size ∧ s.size - a + 1 < gk ∧ Aside0 (bk42s l + stTot st ≤ 5 * a) ∧ Aside0 (P = parF s gk a fault l st) ∧ Aside0 (PS W wr_ g s a fault l st))
    case atStart => exact ⟨0, -1, [], [], by omega, by omega, ⟨by simp [bk42s, stTot]⟩, HP, HPS0⟩
    case round =>
      clear HP HPS0; obtain ⟨a, fault, l, st, has, hgk, HT, HP, HPS⟩ := hrel; obtain ⟨g', rfl⟩ : ∃ g', gk = g' + 1 := ⟨gk - 1, by omega⟩; have HAS := Aside0.mk has; have HGK := Aside0.mk hgk; clear has hgk
      go_wp2_with fail
      refine (HPS.out.longest 8 (by have := HS.out; omega) HAS.out).mono ?_; rintro e w1 ⟨rfl, hp, _⟩; obtain ⟨a0, h0⟩ : ∃ a0, a0 = endF 8 s a := ⟨_, rfl⟩; rw [← h0] at hp; have H0 := Aside0.mk h0
      have hge : a ≤ a0 := by rw [h0]; exact endF_ge 8 s a
      have hle : a0 ≤ s.size := by rw [h0]; exact endF_le 8 s a HAS.out
      have HGE := Aside0.mk hge; have HLE := Aside0.mk hle; have HP1 := Aside0.mk hp; obtain ⟨c0, c1, c2, _⟩ := hp.cells; clear h0 hp hge HPS
      by_cases hlt : a0 < s.size
      · have e2 : ((a0 : Int) == (s.size : Int)) = false := by simp; omega
        obtain ⟨R, hR⟩ : ∃ R, R = itemS s a0 hlt fault l st := ⟨_, rfl⟩; have HPR : Aside0 (P = if R.1 = true then parF s g' R.2.1 R.2.2.1 R.2.2.2.1 R.2.2.2.2 else (false, R.2.2.1, [], [])) := ⟨by rw [HP.out, hR]; have h0 := H0.out; subst h0; simp only [parF]; rw [dif_pos hlt]⟩; have hi := itemS_ok (s := s) (a := a0) (ha := hlt) (fault := fault) (l := l) (st := st); rw [← hR] at hi; have HI := Aside0.mk hi; have hsz := HS.out; have ht := HT.out; have hge := HGE.out; have hl1 := bks_len l; have hl2 := stTot_len st; have hcall := HP1.out.item (by omega) hlt (by omega) (by omega) (fun o ho => by have := stTot_ahead st o ho; omega); rw [← hR] at hcall; have HCALL := Aside0.mk hcall; clear hcall hi hsz ht hge hl1 hl2 hR; obtain ⟨b, hb⟩ : ∃ b, b = R.1 := ⟨_, rfl⟩; rw [← hb] at HCALL; have HB := Aside0.mk hb; clear hb
        go_wp2_with fail
        refine HCALL.out.mono ?_; rintro e w2 ⟨rfl, hp⟩; obtain ⟨d0, d1, d2, _⟩ := hp.cells; have HP2 := Aside0.mk hp; clear hp HCALL c0 c1 c2
        cases b with
        | true =>
          have HX := HI.out HB.out.symm; have HXX := Aside0.mk HX; clear HX
          go_wp2_with fail
          go_roundg g'
          case measure => have := HXX.out; have := HGK.out; have := HGE.out; omega
          case rel => exact ⟨R.2.1, R.2.2.1, R.2.2.2.1, R.2.2.2.2, HXX.out.2.2, by have := HXX.out; have := HGK.out; have := HGE.out; omega, ⟨by have := HXX.out; have := HT.out; have := HGE.out; omega⟩, ⟨by rw [HPR.out, if_pos HB.out.symm]⟩, HP2⟩
        | false =>
          have HDD : Aside0 (parseS s = ([], R.2.2.1, 3)) := ⟨by have hp0 : P = (false, R.2.2.1, [], []) := (by rw [HPR.out, ← HB.out, if_neg (by decide)]); rw [HD.out, hp0]; simp⟩
          go_wp2_with fail
          go_quiet (fail)
          go_wp2_with fail
          (try rw [Exit.noGoto_ret])
          go_ret3
          rw [HDD.out]; exact ⟨none, 0, rfl, Nat.le_refl _, Kd.C_nil _ _, HP2.out.drewN.below⟩
      · have hae : a0 = s.size := by omega
        have e2 : ((a0 : Int) == (s.size : Int)) = true := by simp; omega
        have HPR : Aside0 (P = (true, fault, l, st)) := ⟨by rw [HP.out]; simp only [parF]; rw [dif_neg (by rw [← H0.out]; exact hlt)]⟩; obtain ⟨A, c, As, cs, c3, c4, hlc, hC⟩ := HP1.out.ends; have HLC := Aside0.mk hlc; have HC := Aside0.mk hC; clear hlc hC hae hlt hle
        by_cases hst : st.length = 0
        · have e3 : decide ((0 : Int) < (st.length : Int)) = false := decide_eq_false (by omega); have e3' : decide (0 < st.length) = false := decide_eq_false (by omega)
          have hbk : bk42s l ≤ 1099511627776 := by have := HT.out; have := HAS.out; have := HS.out; omega
          obtain ⟨kk, hkk⟩ := (Result_ev hbk).get; have HKK := Aside0.mk hkk; obtain ⟨r, hr⟩ : ∃ r, r = checkS 8 l := ⟨_, rfl⟩; rw [← hr] at HKK; have HD2 : Aside0 (parseS s = if r = 0 then (l, 0, 0) else ([], 0, r)) := ⟨by rw [HD.out, HPR.out, hr]; simp [hst]⟩; clear hkk hr hbk hst
          go_wp2_with fail
          refine (term_Result.calls kk A c l r w1 HC.out HLC.out HKK.out).mono ?_; rintro e w2 ⟨rfl, hb2⟩; have c3' := pw_cell_below hb2 c3; have HC2 := Aside0.mk (Kd.C_below HC.out hb2); have HB2 := Aside0.mk (q14 HP1.out.below hb2); clear hb2 c3 c4 c0 c1 c2
          by_cases hr0 : r = 0
          · have HD3 : Aside0 (parseS s = (l, 0, 0)) := ⟨by rw [HD2.out, if_pos hr0]⟩
            have e4 : (r != 0) = false := by simp [hr0]
            clear hr0
            go_wp2_with fail
            (try rw [Exit.noGoto_ret])
            go_ret3
            rw [HD3.out]; exact ⟨A, c, rfl, HLC.out, HC2.out, HB2.out⟩
          · have HD3 : Aside0 (parseS s = ([], 0, r)) := ⟨by rw [HD2.out, if_neg hr0]⟩
            have e4 : (r != 0) = true := by simp [hr0]
            clear hr0
            go_wp2_with fail
            (try rw [Exit.noGoto_ret])
            go_ret3
            rw [HD3.out]; exact ⟨none, 0, rfl, Nat.le_refl _, Kd.C_nil _ _, HB2.out⟩
        · have e3 : decide ((0 : Int) < (st.length : Int)) = true := decide_eq_true (by omega); have e3' : decide (0 < st.length) = true := decide_eq_true (by omega); have HD2 : Aside0 (parseS s = ([], (s.size : Int), 3)) := ⟨by rw [HD.out, HPR.out]; simp [hst]⟩; clear hst
          go_wp2_with fail
          (try rw [Exit.noGoto_ret])
          go_ret3
          rw [HD2.out]; exact ⟨none, 0, rfl, Nat.le_refl _, Kd.C_nil _ _, HP1.out.below⟩
end Go.Proofs.Ytdbjjaodkapikaa.TE
end
section
namespace Go.Proofs.Ytdbjjaodkapikaa.TE
open Go.RowKit Go.Shelf Go.Proofs.YtdbjjaodkapikaaW.PrintWords Go.Proofs.YtdbjjaodkapikaaW.PrintLast Go.Proofs.YtdbjjaodkapikaaW.PrintMore Go.Proofs.Ytdbjjaodkapikaa.Evs
set_option linter.unusedVariables false
set_option linter.unusedSimpArgs false
theorem txl_len : ∀ (N : Nat) (l : List Tm) (p : Option Int), bk42s l ≤ N → (txl p l).length ≤ 4 * bk42s l := by
  intro N
  induction N with
  | zero =>
    intro l p h; have := bks_len l; have hl : l = [] := List.eq_nil_of_length_eq_zero (by omega); subst hl; rw [txl_nil]; exact Nat.zero_le _
  | succ N ih =>
    intro l p h
    cases l with
    | nil => rw [txl_nil]; exact Nat.zero_le _
    | cons x r =>
      obtain ⟨k, t, ks⟩ := x; simp only [bk42s, bk42] at h ⊢; have h1 := ih r (some k) (by omega); have h2 := ih ks none (by omega); rw [txl_cons, txT_eq]; simp only [List.length_append]
      have h3 : (spaceL p k).length ≤ 1 := by unfold spaceL; split <;> simp
      have h4 := size_len t
      split
      · have e1 := esc_le (t.data.toList.headD 0) 39
        have : (charL (nextB p k) t (decide ((r.head?.map (·.f0)) ≠ some 1))).length ≤ 6 := by
          unfold charL; simp only [List.length_append]
          have a1 : (if nextB p k = true then ([39] : List UInt8) else []).length ≤ 1 := by split <;> simp
          have a2 : (if decide ((r.head?.map (·.f0)) ≠ some 1) = true then ([39] : List UInt8) else []).length ≤ 1 := by split <;> simp
          omega
        omega
      · split
        · have : (wordL t).length ≤ 4 * t.size + 2 := by
            unfold wordL
            split
            · omega
            · have := flat_le 34 t.data.toList; simp only [List.length_cons, List.length_append, List.length_nil]
              omega
          omega
        · split
          · omega
          · split
            · simp only [List.length_cons, List.length_append, List.length_nil]; omega
            · split
              · have a1 : (if 0 < ks.length then ([32] : List UInt8) else []).length ≤ 1 := by split <;> simp
                simp only [List.length_cons, List.length_append, List.length_nil]; omega
              · have : (nameB k t).data.toList.length ≤ 2 + t.size := by
                  unfold nameB
                  split
                  · rw [ByteArray.data_append]
                    have : (nameL k).length ≤ 2 := by unfold nameL; split <;> (try split) <;> (try split) <;> simp
                    simp only [Array.toList_append, List.length_append]
                    omega
                  · exact Nat.zero_le _
                omega
theorem fine_all {l : List Tm} (h8 : checkS 8 l = 0) : ∀ x ∈ flat l, fineS 8 x = true := by
  have hx := h8; unfold checkS at hx
  split at hx
  · cases hx
  · split at hx
    · cases hx
    · split at hx
      · rename_i h; exact fun x hx => List.all_eq_true.1 h x hx
      · cases hx
theorem wok_of {l : List Tm} (h8 : checkS 8 l = 0) (hb : bk42s l ≤ 1048576) : Wok l := by
  intro x hx; have hf := fine_all h8 x hx; refine ⟨fun h1 => ?_, by have := flat_bk hx; omega⟩; obtain ⟨b, rfl⟩ := fine_char hf h1; exact Nat.zero_lt_one
theorem parF_bk (s : ByteArray) : ∀ (n a : Nat) (f : Int) (l : List Tm) (st : List Op), a ≤ s.size → bk42s l + stTot st ≤ 5 * a → (parF s n a f l st).1 = true → bk42s (parF s n a f l st).2.2.1 ≤ 5 * s.size := by
  intro n
  induction n with
  | zero => intro a f l st h1 h2 h3; cases h3
  | succ n ih =>
    intro a f l st h1 h2 h3; simp only [parF] at h3 ⊢
    by_cases h : endF 8 s a < s.size
    · rw [dif_pos h] at h3 ⊢
      by_cases hi : (itemS s (endF 8 s a) h f l st).1 = true
      · rw [if_pos hi] at h3 ⊢; have := itemS_ok hi; have hge := endF_ge 8 s a; exact ih _ _ _ _ this.2.2 (by omega) h3
      · rw [if_neg hi] at h3; cases h3
    · rw [dif_neg h] at h3 ⊢; simp only
      omega
theorem parse_bk (s : ByteArray) (h : (parseS s).2.2 = 0) : bk42s (parseS s).1 ≤ 5 * s.size ∧ checkS 8 (parseS s).1 = 0 := by
  unfold parseS at h ⊢
  split at h
  · cases h
  · rename_i c1
    rw [if_neg c1]
    split at h
    · rename_i c2
      rw [if_pos c2]
      split at h
      · rename_i c3
        rw [if_pos c3]
        split at h
        · rename_i c4
          rw [if_pos c4]; exact ⟨parF_bk s _ 0 _ _ _ (Nat.zero_le _) (by simp [bk42s, stTot]) c2, c4⟩
        · rename_i c4; exact absurd h c4
      · cases h
    · cases h
end Go.Proofs.Ytdbjjaodkapikaa.TE
end
section
namespace Go.Proofs.Ytdbjjaodkapikaa.TE
open Go.RowKit Go.Shelf Go.Proofs.YtdbjjaodkapikaaW.PrintWords Go.Proofs.YtdbjjaodkapikaaW.PrintLast Go.Proofs.YtdbjjaodkapikaaW.PrintMore Go.Proofs.Ytdbjjaodkapikaa.Evs
set_option linter.unusedVariables false
set_option linter.unusedSimpArgs false
set_option maxRecDepth 100000 in
set_option maxHeartbeats 4000000 in
theorem item_call.calls (g base : Nat) (s : ByteArray) (a a1 a2 : Nat) (kk : Nat) (tx : ByteArray) (fault : Int) (av : Option Addr) (nv cv : Nat) (vs : Value) (n : Nat) (ys : List Value) (W : World) (h : Pz W g s a fault (.slice av nv cv) vs) (ho : W.ownsRow base 122 4 vs n ys) (hb : base ≤ g) (hn8 : n ≤ 1099511627776)
    (hs : s.size ≤ 1099511627776) (ha : a < s.size) (hc : (s[a]'ha).toNat = 60) (h1 : a1 = endF 8 s (a + 1)) (hl : a1 < s.size) (hcl : clsB 1 (s[a1]'hl) = true) (h2 : a2 = endF 4 s a1) (htx : tx = s.extract a1 a2) (hr : term_right.f kk 8 tx [] = some true) (hon : onB s a2 = false) :
    Calls Try.prog 61 #[.pointer (some ⟨g, 0, none⟩)] W fun e W' => e = .returned (.bool true) ∧ ∃ vs', Pz W' g s a2 fault (.slice none 0 0) vs' ∧ W'.ownsRow base 122 4 vs' (n + 1) (ys ++ [.slice av nv cv, .int .i64 8, .string tx, .slice none 0 0]) ∧ (∀ b, vs'.ownBlock = some b → vs.ownBlock = some b ∨ W.heap.size ≤ b) ∧ Fr W W' (fun i => i = g ∨ some i = vs.ownBlock) := by
  have hga : some g ≠ vs.ownBlock := own_neG ho (by decide) h; have hbl : Below W.heap.size W (W.alloc (.cells #[.pointer (some ⟨g, 0, none⟩)] 69)) := (Below.refl _ _).alloc (Nat.le_refl _) _; have hn0 := World.alloc_heap_new W (.cells #[.pointer (some ⟨g, 0, none⟩)] 69); obtain ⟨W0, hW0⟩ : ∃ W0, W.alloc (.cells #[.pointer (some ⟨g, 0, none⟩)] 69) = W0 := ⟨_, rfl⟩; have HW0 := Aside0.mk hW0; rw [hW0] at hbl hn0; have x0 : W0.cell? ⟨W.heap.size, 0, none⟩ = some (.pointer (some ⟨g, 0, none⟩)) := (q5 hn0 0).trans rfl; have hp0 : Pz W0 g s a fault (.slice av nv cv) vs := h.newer hbl; obtain ⟨p0, p1, p2, p3, p4⟩ := hp0.cells; have pf1 := hp0.fz 1; have hgl : g < W.heap.size := (Array.getElem?_eq_some_iff.1 h).1; have ha0 : (0 : Int) ≤ (a : Int) := Int.natCast_nonneg _
  have ha1 : (a : Int) < (s.size : Int) := by omega
  have hbt : ((s[a]'ha).toNat : Int) = 60 := by omega
  have hw4 : IntKind.i64.wrap ((a : Int) + 1) = (a : Int) + 1 := by rw [i64_w]; rw [wrap64_id (by omega) (by omega)]
  have hidx := index_at 60 (-1) (by decide); have his1 := is_at 60 60 rfl 1 false (by decide); have his2 := is_at 60 60 rfl 2 false (by decide); have HIDX := Aside0.mk hidx; have HIS1 := Aside0.mk his1; have HIS2 := Aside0.mk his2; have HP0 := Aside0.mk hp0; have HBL := Aside0.mk hbl; have HN0 := Aside0.mk hn0; have HO := Aside0.mk ho; have HN8 := Aside0.mk hn8; have HS := Aside0.mk hs; have H1 := Aside0.mk h1; have H2 := Aside0.mk h2; have HTX := Aside0.mk htx; have HCL := Aside0.mk hcl; have HR := Aside0.mk hr; have HON := Aside0.mk hon; have HA := Aside0.mk ha; clear h ho hn8 hp0 hbl hW0 hn0 hidx his1 his2 hs hc h1 h2 htx hcl hr hon
  go_enter Try.func61, Try.ntmps61
  go_wp2_with fail
  rw [HW0.out]
  go_quiet (fail)
  go_wp2_with fail
  go_quiet (first | (go_at_call 91; exact quiet_of2 (HIDX.out _)))
  go_wp2_with (first
    | (go_at_call 87; refine (HIS1.out _).mono ?_; rintro e w' ⟨rfl, nd, rfl⟩)
    | (go_at_call 87; refine (HIS2.out _).mono ?_; rintro e w' ⟨rfl, nd, rfl⟩)
    | fail)
  refine (call1.calls g base s a a1 a2 fault av nv cv vs n ys kk tx _ HP0.out.drewN (own_drewN (own_below4 HO.out HBL.out)) hb HN8.out HS.out HA.out H1.out hl HCL.out H2.out HTX.out HR.out HON.out).mono ?_; rintro e w5 ⟨rfl, vs', hp, ho, hn, hf⟩; have HP6 := Aside0.mk hp; have HO6 := Aside0.mk ho; have HN6 := Aside0.mk (show ∀ b, vs'.ownBlock = some b → vs.ownBlock = some b ∨ W.heap.size ≤ b from fun b hb => (hn b hb).imp id (Nat.le_trans HBL.out.size)); have HF6 := Aside0.mk (((fr_drewN (fr_below (Fr.refl W _) HBL.out))).trans hf : Fr W w5 (fun i => i = g ∨ some i = vs.ownBlock)); clear hp ho hn hf
  go_wp2_with fail
  go_ret; exact ⟨rfl, vs', HP6.out, HO6.out, HN6.out, HF6.out⟩
end Go.Proofs.Ytdbjjaodkapikaa.TE
namespace Go.Proofs.Ytdbjjaodkapikaa.TE
open Go.RowKit Go.Shelf Go.Proofs.YtdbjjaodkapikaaW.PrintWords Go.Proofs.YtdbjjaodkapikaaW.PrintLast Go.Proofs.YtdbjjaodkapikaaW.PrintMore Go.Proofs.Ytdbjjaodkapikaa.Evs
set_option linter.unusedVariables false
set_option linter.unusedSimpArgs false
set_option maxRecDepth 100000 in
set_option maxHeartbeats 4000000 in
theorem item_shut.calls (g base : Nat) (s : ByteArray) (a : Nat) (fault : Int) (av : Option Addr) (nv cv : Nat) (bs cs n : Nat) (ys : List Value) (va : Value) (na : Nat) (xsa : List Value) (tx : ByteArray) (A : Option Addr) (m c : Nat) (W : World)
    (h : Pz W g s a fault (.slice av nv cv) (.slice (some ⟨bs, 0, none⟩) (n + 1) cs)) (ho : W.ownsRow base 122 4 (.slice (some ⟨bs, 0, none⟩) (n + 1) cs) (n + 1) (ys ++ [va, .int .i64 4, .string tx, .slice A m c])) (hys : ys.length = n * 4)
    (hav : W.ownsRow base 42 3 va na xsa) (hb : base ≤ g) (hn8 : n ≤ 1099511627776) (hna : na ≤ 1099511627776)
    (hs : s.size ≤ 1099511627776) (ha : a < s.size) (hc : (s[a]'ha).toNat = 41) :
    Calls Try.prog 61 #[.pointer (some ⟨g, 0, none⟩)] W fun e W' => e = .returned (.bool true) ∧ ∃ vl', Pz W' g s ((a + 1 : Nat) : Int) fault vl' (.slice (some ⟨bs, 0, none⟩) n cs) ∧ W'.ownsRow base 122 4 (.slice (some ⟨bs, 0, none⟩) n cs) n ys ∧
      W'.ownsRow base 42 3 vl' (na + 1) (xsa ++ [.int .i64 4, .string tx, .slice av nv cv]) ∧ (∀ b, vl'.ownBlock = some b → va.ownBlock = some b ∨ W.heap.size ≤ b) ∧ Fr W W' (fun i => i = g ∨ some i = va.ownBlock) := by
  have hbl : Below W.heap.size W (W.alloc (.cells #[.pointer (some ⟨g, 0, none⟩)] 69)) := (Below.refl _ _).alloc (Nat.le_refl _) _; have hn0 := World.alloc_heap_new W (.cells #[.pointer (some ⟨g, 0, none⟩)] 69); obtain ⟨W0, hW0⟩ : ∃ W0, W.alloc (.cells #[.pointer (some ⟨g, 0, none⟩)] 69) = W0 := ⟨_, rfl⟩; have HW0 := Aside0.mk hW0; rw [hW0] at hbl hn0; have x0 : W0.cell? ⟨W.heap.size, 0, none⟩ = some (.pointer (some ⟨g, 0, none⟩)) := (q5 hn0 0).trans rfl; have hp0 : Pz W0 g s a fault (.slice av nv cv) (.slice (some ⟨bs, 0, none⟩) (n + 1) cs) := h.newer hbl; obtain ⟨p0, p1, p2, p3, p4⟩ := hp0.cells; have pf1 := hp0.fz 1; have hgl : g < W.heap.size := (Array.getElem?_eq_some_iff.1 h).1; have ha0 : (0 : Int) ≤ (a : Int) := Int.natCast_nonneg _
  have ha1 : (a : Int) < (s.size : Int) := by omega
  have hbt : ((s[a]'ha).toNat : Int) = 41 := by omega
  have hw4 : IntKind.i64.wrap ((a : Int) + 1) = (a : Int) + 1 := by rw [i64_w]; rw [wrap64_id (by omega) (by omega)]
  have hidx := index_at 41 (-1) (by decide); have his1 := is_at 41 41 rfl 1 false (by decide); have his2 := is_at 41 41 rfl 2 false (by decide); have HIDX := Aside0.mk hidx; have HIS1 := Aside0.mk his1; have HIS2 := Aside0.mk his2; have HP0 := Aside0.mk hp0; have HBL := Aside0.mk hbl; have HN0 := Aside0.mk hn0; have HO := Aside0.mk ho; have HN8 := Aside0.mk hn8; have HS := Aside0.mk hs; have HA := Aside0.mk ha; have HAV := Aside0.mk hav; have HNA := Aside0.mk hna; have HYS := Aside0.mk hys; clear h ho hn8 hp0 hbl hW0 hn0 hidx his1 his2 hs hc hav hna hys
  go_enter Try.func61, Try.ntmps61
  go_wp2_with fail
  rw [HW0.out]
  go_quiet (fail)
  go_wp2_with fail
  go_quiet (first | (go_at_call 91; exact quiet_of2 (HIDX.out _)))
  go_wp2_with (first
    | (go_at_call 87; refine (HIS1.out _).mono ?_; rintro e w' ⟨rfl, nd, rfl⟩)
    | (go_at_call 87; refine (HIS2.out _).mono ?_; rintro e w' ⟨rfl, nd, rfl⟩)
    | fail)
  refine (end1.calls g base s (a : Int) fault av nv cv bs cs n ys va na xsa 4 tx A m c _ HP0.out.drewN (own_drewN (own_below4 HO.out HBL.out)) HYS.out (own_drewN (own_below4 HAV.out HBL.out)) hb HN8.out HNA.out (by have := HS.out; have := HA.out; omega)).mono ?_; rintro e w5 ⟨rfl, vl', hp, ho, hl, hn, hf⟩; have HP6 := Aside0.mk hp; have HO6 := Aside0.mk ho; have HL6 := Aside0.mk hl; have HN6 := Aside0.mk (show ∀ b, vl'.ownBlock = some b → va.ownBlock = some b ∨ W.heap.size ≤ b from fun b hb => (hn b hb).imp id (Nat.le_trans HBL.out.size)); have HF6 := Aside0.mk (((fr_drewN (fr_below (Fr.refl W _) HBL.out))).trans hf : Fr W w5 (fun i => i = g ∨ some i = va.ownBlock)); clear hp ho hn hf hl
  go_wp2_with fail
  go_ret; exact ⟨rfl, vl', by have := HP6.out; simpa using this, HO6.out, HL6.out, HN6.out, HF6.out⟩
end Go.Proofs.Ytdbjjaodkapikaa.TE
namespace Go.Proofs.Ytdbjjaodkapikaa.TE
open Go.RowKit Go.Shelf Go.Proofs.YtdbjjaodkapikaaW.PrintWords Go.Proofs.YtdbjjaodkapikaaW.PrintLast Go.Proofs.YtdbjjaodkapikaaW.PrintMore Go.Proofs.Ytdbjjaodkapikaa.Evs
set_option linter.unusedVariables false
set_option linter.unusedSimpArgs false
set_option maxRecDepth 100000 in
set_option maxHeartbeats 4000000 in
theorem item_done.calls (g base : Nat) (s : ByteArray) (a : Nat) (fault : Int) (av : Option Addr) (nv cv : Nat) (bs cs n : Nat) (ys : List Value) (va : Value) (na : Nat) (xsa : List Value) (tx : ByteArray) (A : Option Addr) (m c : Nat) (W : World)
    (h : Pz W g s a fault (.slice av nv cv) (.slice (some ⟨bs, 0, none⟩) (n + 1) cs)) (ho : W.ownsRow base 122 4 (.slice (some ⟨bs, 0, none⟩) (n + 1) cs) (n + 1) (ys ++ [va, .int .i64 8, .string tx, .slice A m c])) (hys : ys.length = n * 4)
    (hav : W.ownsRow base 42 3 va na xsa) (hb : base ≤ g) (hn8 : n ≤ 1099511627776) (hna : na ≤ 1099511627776)
    (hs : s.size ≤ 1099511627776) (ha : a < s.size) (hc : (s[a]'ha).toNat = 62) :
    Calls Try.prog 61 #[.pointer (some ⟨g, 0, none⟩)] W fun e W' => e = .returned (.bool true) ∧ ∃ vl', Pz W' g s ((a + 1 : Nat) : Int) fault vl' (.slice (some ⟨bs, 0, none⟩) n cs) ∧ W'.ownsRow base 122 4 (.slice (some ⟨bs, 0, none⟩) n cs) n ys ∧
      W'.ownsRow base 42 3 vl' (na + 1) (xsa ++ [.int .i64 8, .string tx, .slice av nv cv]) ∧ (∀ b, vl'.ownBlock = some b → va.ownBlock = some b ∨ W.heap.size ≤ b) ∧ Fr W W' (fun i => i = g ∨ some i = va.ownBlock) := by
  have hbl : Below W.heap.size W (W.alloc (.cells #[.pointer (some ⟨g, 0, none⟩)] 69)) := (Below.refl _ _).alloc (Nat.le_refl _) _; have hn0 := World.alloc_heap_new W (.cells #[.pointer (some ⟨g, 0, none⟩)] 69); obtain ⟨W0, hW0⟩ : ∃ W0, W.alloc (.cells #[.pointer (some ⟨g, 0, none⟩)] 69) = W0 := ⟨_, rfl⟩; have HW0 := Aside0.mk hW0; rw [hW0] at hbl hn0; have x0 : W0.cell? ⟨W.heap.size, 0, none⟩ = some (.pointer (some ⟨g, 0, none⟩)) := (q5 hn0 0).trans rfl; have hp0 : Pz W0 g s a fault (.slice av nv cv) (.slice (some ⟨bs, 0, none⟩) (n + 1) cs) := h.newer hbl; obtain ⟨p0, p1, p2, p3, p4⟩ := hp0.cells; have pf1 := hp0.fz 1; have hgl : g < W.heap.size := (Array.getElem?_eq_some_iff.1 h).1; have ha0 : (0 : Int) ≤ (a : Int) := Int.natCast_nonneg _
  have ha1 : (a : Int) < (s.size : Int) := by omega
  have hbt : ((s[a]'ha).toNat : Int) = 62 := by omega
  have hw4 : IntKind.i64.wrap ((a : Int) + 1) = (a : Int) + 1 := by rw [i64_w]; rw [wrap64_id (by omega) (by omega)]
  have hidx := index_at 62 (-1) (by decide); have his1 := is_at 62 62 rfl 1 false (by decide); have his2 := is_at 62 62 rfl 2 false (by decide); have HIDX := Aside0.mk hidx; have HIS1 := Aside0.mk his1; have HIS2 := Aside0.mk his2; have HP0 := Aside0.mk hp0; have HBL := Aside0.mk hbl; have HN0 := Aside0.mk hn0; have HO := Aside0.mk ho; have HN8 := Aside0.mk hn8; have HS := Aside0.mk hs; have HA := Aside0.mk ha; have HAV := Aside0.mk hav; have HNA := Aside0.mk hna; have HYS := Aside0.mk hys; clear h ho hn8 hp0 hbl hW0 hn0 hidx his1 his2 hs hc hav hna hys
  go_enter Try.func61, Try.ntmps61
  go_wp2_with fail
  rw [HW0.out]
  go_quiet (fail)
  go_wp2_with fail
  go_quiet (first | (go_at_call 91; exact quiet_of2 (HIDX.out _)))
  go_wp2_with (first
    | (go_at_call 87; refine (HIS1.out _).mono ?_; rintro e w' ⟨rfl, nd, rfl⟩)
    | (go_at_call 87; refine (HIS2.out _).mono ?_; rintro e w' ⟨rfl, nd, rfl⟩)
    | fail)
  refine (end1.calls g base s (a : Int) fault av nv cv bs cs n ys va na xsa 8 tx A m c _ HP0.out.drewN (own_drewN (own_below4 HO.out HBL.out)) HYS.out (own_drewN (own_below4 HAV.out HBL.out)) hb HN8.out HNA.out (by have := HS.out; have := HA.out; omega)).mono ?_; rintro e w5 ⟨rfl, vl', hp, ho, hl, hn, hf⟩; have HP6 := Aside0.mk hp; have HO6 := Aside0.mk ho; have HL6 := Aside0.mk hl; have HN6 := Aside0.mk (show ∀ b, vl'.ownBlock = some b → va.ownBlock = some b ∨ W.heap.size ≤ b from fun b hb => (hn b hb).imp id (Nat.le_trans HBL.out.size)); have HF6 := Aside0.mk (((fr_drewN (fr_below (Fr.refl W _) HBL.out))).trans hf : Fr W w5 (fun i => i = g ∨ some i = va.ownBlock)); clear hp ho hn hf hl
  go_wp2_with fail
  go_ret; exact ⟨rfl, vl', by have := HP6.out; simpa using this, HO6.out, HL6.out, HN6.out, HF6.out⟩
end Go.Proofs.Ytdbjjaodkapikaa.TE
end
section
namespace Go.Proofs.Ytdbjjaodkapikaa.TE
open Go.RowKit Go.Shelf Go.Proofs.YtdbjjaodkapikaaW.PrintWords Go.Proofs.YtdbjjaodkapikaaW.PrintLast Go.Proofs.YtdbjjaodkapikaaW.PrintMore Go.Proofs.Ytdbjjaodkapikaa.Evs
set_option linter.unusedVariables false
set_option linter.unusedSimpArgs false
def textS (r : Int) (l : List Tm) : ByteArray := if r = 0 ∧ (txl none l).length ≤ 40000 then ⟨(txl none l).toArray⟩ else ⟨#[]⟩
def textE (r : Int) (l : List Tm) : Int := if r = 0 then (if (txl none l).length ≤ 40000 then 0 else 7) else r
set_option maxRecDepth 100000 in
set_option maxHeartbeats 4000000 in
theorem Text.calls (k : Nat) (A : Option Addr) (c : Nat) (l : List Tm) (r : Int) (w : World) (hC : Kd.C k42 w A l.length l) (hc : l.length ≤ c) (hres : term_Result.f k l = some r) (hok : r = 0 → Wok l ∧ (txl none l).length ≤ 131941395333120) :
    Calls Try.prog 12 #[.slice A l.length c] w fun e w' => e = .returned (.tuple #[.string (textS r l), .int .i64 (textE r l)]) ∧ Below w.heap.size w w' := by
  have HRES := Aside0.mk (term_Result.calls k A c l r w hC hc hres); have HC := Aside0.mk hC; have HOK := Aside0.mk hok; clear hC hok hres
  by_cases h0 : r = 0
  · subst h0; obtain ⟨hwok, hlen⟩ := HOK.out rfl; have HWOK := Aside0.mk hwok; have HLEN := Aside0.mk hlen; clear HOK hwok hlen; obtain ⟨L, hL⟩ : ∃ L, L = txl none l := ⟨_, rfl⟩
    have hts : textS 0 l = if L.length ≤ 40000 then ⟨L.toArray⟩ else ⟨#[]⟩ := by unfold textS; rw [hL]; simp
    have hte : textE 0 l = if L.length ≤ 40000 then 0 else 7 := by unfold textE; rw [if_pos rfl, hL]
    have HTS := Aside0.mk hts; have HTE := Aside0.mk hte; have HL := Aside0.mk hL; clear hts hte hL
    go_enter Try.func12, Try.ntmps12
    go_wp2_with fail
    refine HRES.out.mono ?_; rintro e w1 ⟨rfl, hb1⟩; have HB1 := Aside0.mk hb1; clear hb1 HRES
    go_wp2_with fail
    have hB0 : Below w1.heap.size w1 (w1.alloc (.cells #[.pointer none, .slice none 0 0] 64)) := (Below.refl _ _).alloc (Nat.le_refl _) _; have hIs : IsB w1.heap.size w1.heap.size [] (w1.alloc (.cells #[.pointer none, .slice none 0 0] 64)) := Lib.fresh_isBuilder _ _ w1; obtain ⟨W0, hW0⟩ : ∃ W0, w1.alloc (.cells #[.pointer none, .slice none 0 0] 64) = W0 := ⟨_, rfl⟩; rw [hW0] at hB0 hIs ⊢; refine (write.calls w1 w1.heap.size w1.heap.size _ A c l [] W0 (Nat.le_refl _) (Kd.C_below HC.out HB1.out) hc HWOK.out hB0 (Nat.le_refl _) hB0.size hIs (by have := HLEN.out; simpa using this)).mono ?_; rintro e w2 ⟨rfl, hx, hb2⟩; rw [← HL.out, List.nil_append] at hx; have HX := Aside0.mk hx; have HS2 := Aside0.mk (Nat.le_trans hB0.size hb2.size); have HB2 := Aside0.mk (HB1.out.trans ((hB0.trans hb2).mono HB1.out.size)); clear hx hb2 hB0 hIs hW0
    by_cases hn : L.length ≤ 40000
    · have e1 : decide ((40000 : Int) < (L.length : Int)) = false := decide_eq_false (by omega); have HN := Aside0.mk hn; clear hn
      go_wp2_with (first | (go_at_call 57; refine (Try.Builder_Len w1.heap.size w1.heap.size _ _ HX.out).mono ?_; rintro e w' ⟨rfl, hw'⟩; rw [hw', Lib.byteCells_length]) | (go_at_call 58; refine (Try.Builder_String_any w1.heap.size w1.heap.size L _ HX.out HS2.out).mono ?_; rintro e w3 ⟨rfl, hb3⟩; have HB3 := Aside0.mk (HB2.out.trans (hb3.mono HB1.out.size)); clear hb3) | fail)
      go_ret2
      exact ⟨by rw [HTS.out, HTE.out, if_pos HN.out, if_pos HN.out]; rfl, HB3.out⟩
    · have e1 : decide ((40000 : Int) < (L.length : Int)) = true := decide_eq_true (by omega); have HN := Aside0.mk hn; clear hn
      go_wp2_with (first | (go_at_call 57; refine (Try.Builder_Len w1.heap.size w1.heap.size _ _ HX.out).mono ?_; rintro e w' ⟨rfl, hw'⟩; rw [hw', Lib.byteCells_length]) | fail)
      go_ret2
      exact ⟨by rw [HTS.out, HTE.out, if_neg HN.out, if_neg HN.out]; rfl, HB2.out⟩
  · have h1 : (r != 0) = true := by simp; exact h0
    have hts : textS r l = ⟨#[]⟩ := by unfold textS; rw [if_neg (by intro h; exact h0 h.1)]
    have hte : textE r l = r := by unfold textE; rw [if_neg h0]
    rw [hts, hte]; clear hts hte h0 HOK
    go_enter Try.func12, Try.ntmps12
    go_wp2_with fail
    refine HRES.out.mono ?_; rintro e w1 ⟨rfl, hb1⟩; have HB1 := Aside0.mk hb1; clear hb1 HRES
    go_wp2_with fail
    go_ret2
    exact ⟨rfl, HB1.out⟩
end Go.Proofs.Ytdbjjaodkapikaa.TE
end
section
namespace Go.Proofs.Ytdbjjaodkapikaa.TE
open Go.RowKit Go.Shelf Go.Proofs.YtdbjjaodkapikaaW.PrintWords Go.Proofs.YtdbjjaodkapikaaW.PrintLast Go.Proofs.YtdbjjaodkapikaaW.PrintMore Go.Proofs.Ytdbjjaodkapikaa.Evs
set_option linter.unusedVariables false
set_option linter.unusedSimpArgs false
def s0 : ByteArray := ⟨#[39, 97, 98, 39, 32, 115, 46, 49, 32, 40, 60, 70, 32, 101, 46, 120, 62, 41]⟩
def tA : List Tm := [⟨1, ⟨#[97]⟩, []⟩, ⟨1, ⟨#[98]⟩, []⟩]
def cS : List Value := [.int .i64 5, .string ⟨#[49]⟩, .slice none 0 0]
def cE : List Value := [.int .i64 7, .string ⟨#[120]⟩, .slice none 0 0]
def Ap (v v' : Value) : Prop := ∀ b, v.ownBlock = some b → v'.ownBlock ≠ some b
abbrev vnil : Value := .slice none 0 0
def Sx (B k : Nat) (vl vs : Value) (W : World) : Prop :=
  match k with
  | 0 => vl = vnil ∧ vs = vnil
  | 1 => vs = vnil ∧ ∃ cs, W.ownsRow B 42 3 vl 2 cs ∧ Flat tA cs
  | 2 => vs = vnil ∧ ∃ cs, W.ownsRow B 42 3 vl 3 (cs ++ cS) ∧ Flat tA cs
  | 3 => vl = vnil ∧ ∃ cs v1, W.ownsRow B 42 3 v1 3 (cs ++ cS) ∧ Flat tA cs ∧ W.ownsRow B 122 4 vs 1 [v1, .int .i64 4, .string ⟨#[]⟩, vnil]
  | 4 => vl = vnil ∧ ∃ cs v1, W.ownsRow B 42 3 v1 3 (cs ++ cS) ∧ Flat tA cs ∧ W.ownsRow B 122 4 vs 2 [v1, .int .i64 4, .string ⟨#[]⟩, vnil, vnil, .int .i64 8, .string ⟨#[70]⟩, vnil]
  | 5 => ∃ cs v1, W.ownsRow B 42 3 v1 3 (cs ++ cS) ∧ Flat tA cs ∧ W.ownsRow B 122 4 vs 2 [v1, .int .i64 4, .string ⟨#[]⟩, vnil, vnil, .int .i64 8, .string ⟨#[70]⟩, vnil] ∧ W.ownsRow B 42 3 vl 1 cE ∧ Ap vl v1
  | 6 => ∃ cs v1 v2, W.ownsRow B 42 3 v1 3 (cs ++ cS) ∧ Flat tA cs ∧ W.ownsRow B 122 4 vs 1 [v1, .int .i64 4, .string ⟨#[]⟩, vnil] ∧ W.ownsRow B 42 3 v2 1 cE ∧ W.ownsRow B 42 3 vl 1 [.int .i64 8, .string ⟨#[70]⟩, v2] ∧ Ap v2 v1 ∧ Ap vl v1
  | 7 => ∃ cs v2 v3, (∃ A c, vs = .slice A 0 c) ∧ W.ownsRow B 42 3 vl 4 (cs ++ cS ++ [.int .i64 4, .string ⟨#[]⟩, v3]) ∧ Flat tA cs ∧ W.ownsRow B 42 3 v2 1 cE ∧ W.ownsRow B 42 3 v3 1 [.int .i64 8, .string ⟨#[70]⟩, v2]
  | _ => False
theorem Sx.keep {B k : Nat} {vl vs : Value} {W W' : World} (h : Sx B k vl vs W) (hk : ∀ e z v n xs, e ≠ 72 → W.ownsRow B e z v n xs → W'.ownsRow B e z v n xs) : Sx B k vl vs W' := by
  unfold Sx at *
  match k, h with
  | 0, h => exact h
  | 1, ⟨h, cs, h1, h2⟩ => exact ⟨h, cs, hk _ _ _ _ _ (by decide) h1, h2⟩
  | 2, ⟨h, cs, h1, h2⟩ => exact ⟨h, cs, hk _ _ _ _ _ (by decide) h1, h2⟩
  | 3, ⟨h, cs, v1, h1, h2, h3⟩ => exact ⟨h, cs, v1, hk _ _ _ _ _ (by decide) h1, h2, hk _ _ _ _ _ (by decide) h3⟩
  | 4, ⟨h, cs, v1, h1, h2, h3⟩ => exact ⟨h, cs, v1, hk _ _ _ _ _ (by decide) h1, h2, hk _ _ _ _ _ (by decide) h3⟩
  | 5, ⟨cs, v1, h1, h2, h3, h4, h5⟩ => exact ⟨cs, v1, hk _ _ _ _ _ (by decide) h1, h2, hk _ _ _ _ _ (by decide) h3, hk _ _ _ _ _ (by decide) h4, h5⟩
  | 6, ⟨cs, v1, v2, h1, h2, h3, h4, h5, h6⟩ => exact ⟨cs, v1, v2, hk _ _ _ _ _ (by decide) h1, h2, hk _ _ _ _ _ (by decide) h3, hk _ _ _ _ _ (by decide) h4, hk _ _ _ _ _ (by decide) h5, h6⟩
  | 7, ⟨cs, v2, v3, h0, h1, h2, h3, h4⟩ => exact ⟨cs, v2, v3, h0, hk _ _ _ _ _ (by decide) h1, h2, hk _ _ _ _ _ (by decide) h3, hk _ _ _ _ _ (by decide) h4⟩
def St (B g k p : Nat) (W : World) : Prop := B ≤ g ∧ ∃ vl vs, Pz W g s0 p (-1) vl vs ∧ Sx B k vl vs W
theorem below_fr {B : Nat} {W W' : World} {S : Nat → Prop} (h : Fr W W' S) (hB : B ≤ W.heap.size) (hS : ∀ i, S i → B ≤ i) : Below B W W' :=
  ⟨h.os, h.tape, h.output, h.size, fun k hk => h.block k (by omega) (fun e => by have := hS k e; omega)⟩
theorem longest_st {B g k p : Nat} {W : World} (h : St B g k p W) (hp : p ≤ 18) :
    Calls Try.prog 60 #[.pointer (some ⟨g, 0, none⟩), .int .u8 8] W fun e W' => (∃ v, e = .returned v) ∧ St B g k (endF 8 s0 p) W' ∧ Below B W W' := by
  obtain ⟨hb, vl, vs, hP, hS⟩ := h; refine (longest.calls g s0 p 8 (-1) vl vs W hP (by decide) (show p ≤ s0.size by exact hp)).mono ?_; rintro e W' ⟨rfl, hp', hg⟩; have hgl : g < W.heap.size := (Array.getElem?_eq_some_iff.1 hP).1; exact ⟨⟨_, rfl⟩, ⟨hb, vl, vs, hp', hS.keep (fun e z v n xs he ho => own_grown ho hg (fun b hb e => own_neG ho he hP (by rw [hb]; exact e.symm)))⟩, below_fr (Fr.of_grown (S := fun i => i = g) hg (fun i e => by cases e; rfl)) (by omega) (fun i e => by omega)⟩
theorem own_form {w : World} {base n e z : Nat} {v : Value} {xs : List Value} (h : w.ownsRow base e z v n xs) : ∃ A c, v = .slice A n c := by
  rcases h.2 with ⟨hv, h0⟩ | ⟨b, cap, cur, hv, _⟩
  · exact ⟨none, 0, by rw [hv, h0]⟩
  · exact ⟨_, _, hv⟩
theorem own_form1 {w : World} {base n e z : Nat} {v : Value} {xs : List Value} (h : w.ownsRow base e z v n xs) (hn : 0 < n) : ∃ b c, v = .slice (some ⟨b, 0, none⟩) n c := by
  rcases h.2 with ⟨hv, h0⟩ | ⟨b, cap, cur, hv, _⟩
  · omega
  · exact ⟨_, _, hv⟩
theorem plainly0 : Plainly s0 0 3 := by
  refine ⟨by decide, by decide, fun _ _ => rfl, fun j h h' h1 h2 => ?_⟩
  have : j = 1 ∨ j = 2 := by omega
  rcases this with rfl | rfl
  · exact (by decide : 32 ≤ (s0[1]'(by decide)).toNat ∧ (s0[1]'(by decide)).toNat ≤ 126 ∧ (s0[1]'(by decide)).toNat ≠ 92 ∧ s0[1]'(by decide) ≠ s0[0]'(by decide))
  · exact (by decide : 32 ≤ (s0[2]'(by decide)).toNat ∧ (s0[2]'(by decide)).toNat ≤ 126 ∧ (s0[2]'(by decide)).toNat ≠ 92 ∧ s0[2]'(by decide) ≠ s0[0]'(by decide))
theorem chars0 : term_Chars.f 10 ⟨(between s0 1 2).toArray⟩ = some tA := by kernel_rfl
theorem st0 {B g : Nat} {W : World} (h : St B g 0 0 W) :
    Calls Try.prog 61 #[.pointer (some ⟨g, 0, none⟩)] W fun e W' => e = .returned (.bool true) ∧ St B g 1 4 W' ∧ Below B W W' := by
  obtain ⟨hb, vl, vs, hP, rfl, rfl⟩ := h; have hgl : g < W.heap.size := (Array.getElem?_eq_some_iff.1 hP).1; refine (item_quote.calls g B s0 0 3 10 tA (-1) vnil vnil 0 [] W hP (World.ownsRow_nil _ _ _ _) hb (by decide) rfl (by decide) (by decide) (by decide) plainly0 (by decide) chars0 (by decide) (by decide) (by decide)).mono ?_; rintro e W' ⟨rfl, vl', cs, hp, ho, hf, hn, hF⟩; exact ⟨rfl, ⟨hb, vl', vnil, hp, rfl, cs, ho, hf⟩, below_fr hF (by omega) (fun i e => by rcases e with e | e; (· omega); (· simp [Value.ownBlock] at e))⟩
theorem st1 {B g : Nat} {W : World} (h : St B g 1 5 W) :
    Calls Try.prog 61 #[.pointer (some ⟨g, 0, none⟩)] W fun e W' => e = .returned (.bool true) ∧ St B g 2 8 W' ∧ Below B W W' := by
  obtain ⟨hb, vl, vs, hP, rfl, cs, h1, h2⟩ := h; have hgl : g < W.heap.size := (Array.getElem?_eq_some_iff.1 hP).1; refine (item_var.calls g B s0 5 8 0 10 ⟨#[49]⟩ (-1) vl vnil 2 cs 115 W hP h1 hb (by decide) (by have := h2.len; simpa [tA] using this) (by decide) (by decide) rfl (by decide) (by decide) (by decide) (by decide) (by decide) (by kernel_rfl) (by kernel_rfl) (by kernel_rfl) (by kernel_rfl)).mono ?_; rintro e W' ⟨rfl, vl', hp, ho, hn, hF⟩; exact ⟨rfl, ⟨hb, vl', vnil, hp, rfl, cs, ho, h2⟩, below_fr hF (by omega) (fun i e => by rcases e with e | e; (· omega); (· exact (h1.lt i e.symm).1))⟩
theorem st2 {B g : Nat} {W : World} (h : St B g 2 9 W) :
    Calls Try.prog 61 #[.pointer (some ⟨g, 0, none⟩)] W fun e W' => e = .returned (.bool true) ∧ St B g 3 10 W' ∧ Below B W W' := by
  obtain ⟨hb, vl, vs, hP, rfl, cs, h1, h2⟩ := h; have hgl : g < W.heap.size := (Array.getElem?_eq_some_iff.1 hP).1; obtain ⟨A, c, rfl⟩ := own_form h1; refine (item_open.calls g B s0 9 (-1) A 3 c vnil 0 [] W hP (World.ownsRow_nil _ _ _ _) hb (by decide) (by decide) (by decide) (by decide)).mono ?_; rintro e W' ⟨rfl, vs', hp, ho, hn, hF⟩; have hg1 := own_neG h1 (by decide) hP; exact ⟨rfl, ⟨hb, _, vs', hp, rfl, cs, _, own_fr h1 hF (fun b hb e => by rcases e with e | e; (· exact hg1 (by rw [hb, e])); (· simp [Value.ownBlock] at e)), h2, ho⟩, below_fr hF (by omega) (fun i e => by rcases e with e | e; (· omega); (· simp [Value.ownBlock] at e))⟩
theorem st3 {B g : Nat} {W : World} (h : St B g 3 10 W) :
    Calls Try.prog 61 #[.pointer (some ⟨g, 0, none⟩)] W fun e W' => e = .returned (.bool true) ∧ St B g 4 12 W' ∧ Below B W W' := by
  obtain ⟨hb, vl, vs, hP, rfl, cs, v1, h1, h2, h3⟩ := h; have hgl : g < W.heap.size := (Array.getElem?_eq_some_iff.1 hP).1; refine (item_call.calls g B s0 10 11 12 10 ⟨#[70]⟩ (-1) none 0 0 vs 1 _ W hP h3 hb (by decide) (by decide) (by decide) (by decide) (by kernel_rfl) (by decide) (by kernel_rfl) (by kernel_rfl) (by kernel_rfl) (by kernel_rfl) (by kernel_rfl)).mono ?_; rintro e W' ⟨rfl, vs', hp, ho, hn, hF⟩; have hg1 := own_neG h1 (by decide) hP; have ha := own_apart h1 h3 (by decide); exact ⟨rfl, ⟨hb, _, vs', hp, rfl, cs, v1, own_fr h1 hF (fun b hb e => by rcases e with e | e; (· exact hg1 (by rw [hb, e])); (· exact ha b hb e)), h2, ho⟩, below_fr hF (by omega) (fun i e => by rcases e with e | e; (· omega); (· exact (h3.lt i e.symm).1))⟩
theorem st4 {B g : Nat} {W : World} (h : St B g 4 13 W) :
    Calls Try.prog 61 #[.pointer (some ⟨g, 0, none⟩)] W fun e W' => e = .returned (.bool true) ∧ St B g 5 16 W' ∧ Below B W W' := by
  obtain ⟨hb, vl, vs, hP, rfl, cs, v1, h1, h2, h3⟩ := h; have hgl : g < W.heap.size := (Array.getElem?_eq_some_iff.1 hP).1; refine (item_var.calls g B s0 13 16 2 10 ⟨#[120]⟩ (-1) vnil vs 0 [] 101 W hP (World.ownsRow_nil _ _ _ _) hb (by decide) rfl (by decide) (by decide) rfl (by decide) (by decide) (by decide) (by decide) (by decide) (by kernel_rfl) (by kernel_rfl) (by kernel_rfl) (by kernel_rfl)).mono ?_; rintro e W' ⟨rfl, vl', hp, ho, hn, hF⟩; have hg1 := own_neG h1 (by decide) hP; have hg3 := own_neG h3 (by decide) hP; exact ⟨rfl, ⟨hb, vl', vs, hp, cs, v1, own_fr h1 hF (fun b hb e => by rcases e with e | e; (· exact hg1 (by rw [hb, e])); (· simp [Value.ownBlock] at e)), h2, own_fr h3 hF (fun b hb e => by rcases e with e | e; (· exact hg3 (by rw [hb, e])); (· simp [Value.ownBlock] at e)), ho, fun b hb hb1 => by have hx := hn b hb; rcases hx with hx | hx; (· simp [Value.ownBlock] at hx); (· have := (h1.lt b hb1).2; omega)⟩, below_fr hF (by omega) (fun i e => by rcases e with e | e; (· omega); (· simp [Value.ownBlock] at e))⟩
theorem st5 {B g : Nat} {W : World} (h : St B g 5 16 W) :
    Calls Try.prog 61 #[.pointer (some ⟨g, 0, none⟩)] W fun e W' => e = .returned (.bool true) ∧ St B g 6 17 W' ∧ Below B W W' := by
  obtain ⟨hb, vl, vs, hP, cs, v1, h1, h2, h3, h4, h5⟩ := h; have hgl : g < W.heap.size := (Array.getElem?_eq_some_iff.1 hP).1; obtain ⟨bs, c, rfl⟩ := own_form1 h3 (by decide); obtain ⟨A, c2, rfl⟩ := own_form h4; refine (item_done.calls g B s0 16 (-1) A 1 c2 bs c 1 [v1, .int .i64 4, .string ⟨#[]⟩, vnil] vnil 0 [] ⟨#[70]⟩ none 0 0 W hP h3 rfl (World.ownsRow_nil _ _ _ _) hb (by decide) (by decide) (by decide) (by decide) (by decide)).mono ?_; rintro e W' ⟨rfl, vl', hp, ho, hl, hn, hF⟩; have hg1 := own_neG h1 (by decide) hP; have hg4 := own_neG h4 (by decide) hP; exact ⟨rfl, ⟨hb, vl', _, hp, cs, v1, _, own_fr h1 hF (fun b hb e => by rcases e with e | e; (· exact hg1 (by rw [hb, e])); (· simp [Value.ownBlock] at e)), h2, ho, own_fr h4 hF (fun b hb e => by rcases e with e | e; (· exact hg4 (by rw [hb, e])); (· simp [Value.ownBlock] at e)), hl, h5, fun b hb hb1 => by have hx := hn b hb; rcases hx with hx | hx; (· simp [Value.ownBlock] at hx); (· have := (h1.lt b hb1).2; omega)⟩, below_fr hF (by omega) (fun i e => by rcases e with e | e; (· omega); (· simp [Value.ownBlock] at e))⟩
theorem st6 {B g : Nat} {W : World} (h : St B g 6 17 W) :
    Calls Try.prog 61 #[.pointer (some ⟨g, 0, none⟩)] W fun e W' => e = .returned (.bool true) ∧ St B g 7 18 W' ∧ Below B W W' := by
  obtain ⟨hb, vl, vs, hP, cs, v1, v2, h1, h2, h3, h4, h5, h6, h7⟩ := h; have hgl : g < W.heap.size := (Array.getElem?_eq_some_iff.1 hP).1; obtain ⟨bs, c, rfl⟩ := own_form1 h3 (by decide); obtain ⟨A, c2, rfl⟩ := own_form h5; refine (item_shut.calls g B s0 17 (-1) A 1 c2 bs c 0 [] v1 3 (cs ++ cS) ⟨#[]⟩ none 0 0 W hP h3 rfl h1 hb (by decide) (by decide) (by decide) (by decide) (by decide)).mono ?_; rintro e W' ⟨rfl, vl', hp, ho, hl, hn, hF⟩; have hg4 := own_neG h4 (by decide) hP; have hg5 := own_neG h5 (by decide) hP; exact ⟨rfl, ⟨hb, vl', _, hp, cs, v2, _, ⟨_, _, rfl⟩, hl, h2, own_fr h4 hF (fun b hb e => by rcases e with e | e; (· exact hg4 (by rw [hb, e])); (· exact h6 b hb e.symm)), own_fr h5 hF (fun b hb e => by rcases e with e | e; (· exact hg5 (by rw [hb, e])); (· exact h7 b hb e.symm))⟩, below_fr hF (by omega) (fun i e => by rcases e with e | e; (· omega); (· exact (h1.lt i e.symm).1))⟩
end Go.Proofs.Ytdbjjaodkapikaa.TE
namespace Go.Proofs.Ytdbjjaodkapikaa.TE
open Go.RowKit Go.Shelf Go.Proofs.YtdbjjaodkapikaaW.PrintWords Go.Proofs.YtdbjjaodkapikaaW.PrintLast Go.Proofs.YtdbjjaodkapikaaW.PrintMore Go.Proofs.Ytdbjjaodkapikaa.Evs
set_option linter.unusedVariables false
set_option linter.unusedSimpArgs false
def l0 : List Tm := [⟨1, ⟨#[97]⟩, []⟩, ⟨1, ⟨#[98]⟩, []⟩, ⟨5, ⟨#[49]⟩, []⟩, ⟨4, ⟨#[]⟩, [⟨8, ⟨#[70]⟩, [⟨7, ⟨#[120]⟩, []⟩]⟩]⟩]
def posA : Nat → Nat
  | 0 => 0
  | 1 => 4
  | 2 => 8
  | 3 => 10
  | 4 => 12
  | 5 => 16
  | 6 => 17
  | _ => 18
def posB : Nat → Nat
  | 0 => 0
  | 1 => 5
  | 2 => 9
  | 3 => 10
  | 4 => 13
  | 5 => 16
  | 6 => 17
  | _ => 18
theorem posB_eq : ∀ k, k ≤ 7 → endF 8 s0 (posA k) = posB k := by decide
theorem posA_le : ∀ k, posA k ≤ 18 := by
  intro k; unfold posA; split <;> omega
theorem posB_lt : ∀ k, k < 7 → posB k < 18 := by decide
theorem st_item {B g k : Nat} {W : World} (hk : k < 7) (h : St B g k (posB k) W) :
    Calls Try.prog 61 #[.pointer (some ⟨g, 0, none⟩)] W fun e W' => e = .returned (.bool true) ∧ St B g (k + 1) (posA (k + 1)) W' ∧ Below B W W' := by
  match k, hk, h with
  | 0, _, h => exact st0 h
  | 1, _, h => exact st1 h
  | 2, _, h => exact st2 h
  | 3, _, h => exact st3 h
  | 4, _, h => exact st4 h
  | 5, _, h => exact st5 h
  | 6, _, h => exact st6 h
theorem reps_cons {α : Type} {R : α → List Value → Prop} {x : α} {r : List α} {c cs : List Value} (hx : R x c) (hc : c.length = 3) (h : Reps R 3 r cs) : Reps R 3 (x :: r) (c ++ cs) := by
  refine ⟨by rw [List.length_append, hc, h.1, List.length_cons]; omega, fun j p hp => ?_⟩
  cases j with
  | zero =>
    obtain rfl : x = p := by simpa using hp
    simp only [Nat.zero_mul, List.drop_zero]; rw [List.take_append_of_le_length (by omega), List.take_of_length_le (by omega)]; exact hx
  | succ j =>
    have := h.2 j p (by simpa using hp); rw [show (j + 1) * 3 = c.length + j * 3 by omega, List.drop_length_add_append]; exact this
theorem flat_reps {W : World} {r : List Tm} {cs : List Value} (h : Flat r cs) : ∀ {r2 : List Tm} {cs2 : List Value}, Reps (k42.K W) 3 r2 cs2 → Reps (k42.K W) 3 (r ++ r2) (cs ++ cs2) := by
  induction h with
  | nil => intro r2 cs2 h2; exact h2
  | cons k t A c r cs h ih =>
    intro r2 cs2 h2; exact reps_cons (c := [.int .i64 k, .string t, .slice A 0 c]) (k42_mk W ⟨k, t, []⟩ (Nat.zero_le _) ⟨rfl, Nat.zero_le _, fun hp => absurd hp (Nat.lt_irrefl _)⟩) rfl (ih h2)
theorem l0_reads {B : Nat} {vl vs : Value} {W : World} (h : Sx B 7 vl vs W) : ∃ b c, vl = .slice (some ⟨b, 0, none⟩) 4 c ∧ 4 ≤ c ∧ Kd.C k42 W (some ⟨b, 0, none⟩) 4 l0 := by
  obtain ⟨cs, v2, v3, _, h1, h2, h3, h4⟩ := h; have r3 : Reps (k42.K W) 3 [(⟨7, ⟨#[120]⟩, []⟩ : Tm)] cE := reps_cons (k42_mk W ⟨7, ⟨#[120]⟩, []⟩ (Nat.le_refl 0) (Kd.C_nil _ _)) rfl (Reps.none _ _); obtain ⟨A2, c2, rfl, hr2⟩ := own_reads_row h3 r3 rfl; have r4 : Reps (k42.K W) 3 [(⟨8, ⟨#[70]⟩, [⟨7, ⟨#[120]⟩, []⟩]⟩ : Tm)] [.int .i64 8, .string ⟨#[70]⟩, .slice A2 1 c2] := reps_cons (k42_mk W ⟨8, ⟨#[70]⟩, [⟨7, ⟨#[120]⟩, []⟩]⟩ (own_le h3) hr2) rfl (Reps.none _ _); obtain ⟨A3, c3, rfl, hr3⟩ := own_reads_row h4 r4 rfl
  have r1 : Reps (k42.K W) 3 l0 (cs ++ cS ++ [.int .i64 4, .string ⟨#[]⟩, .slice A3 1 c3]) := by
    rw [List.append_assoc]; refine flat_reps h2 (r2 := [⟨5, ⟨#[49]⟩, []⟩, ⟨4, ⟨#[]⟩, [⟨8, ⟨#[70]⟩, [⟨7, ⟨#[120]⟩, []⟩]⟩]⟩]) ?_; refine reps_cons (c := cS) (k42_mk W ⟨5, ⟨#[49]⟩, []⟩ (Nat.le_refl 0) (Kd.C_nil _ _)) rfl ?_; exact reps_cons (k42_mk W ⟨4, ⟨#[]⟩, [⟨8, ⟨#[70]⟩, [⟨7, ⟨#[120]⟩, []⟩]⟩]⟩ (own_le h4) hr3) rfl (Reps.none _ _)
  obtain ⟨b, c1, rfl⟩ := own_form1 h1 (by decide); obtain ⟨A', c', he, hr1⟩ := own_reads_row h1 r1 rfl
  injection he with e1 _ _
  exact ⟨b, c1, rfl, own_le h1, by rw [e1]; exact hr1⟩
theorem res0 : term_Result.f 100 l0 = some 0 := by kernel_rfl
set_option maxRecDepth 100000 in
set_option maxHeartbeats 4000000 in
theorem Parse0.calls (W : World) : Calls Try.prog 14 #[.string s0] W fun e W' => ∃ b c, e = .returned (.tuple #[.slice (some ⟨b, 0, none⟩) 4 c, .int .i64 0, .int .i64 0]) ∧ 4 ≤ c ∧ Kd.C k42 W' (some ⟨b, 0, none⟩) 4 l0 ∧ Below W.heap.size W W' := by
  have hs : s0.size = 18 := by decide
  have e1 : decide ((40000 : Int) < (s0.size : Int)) = false := by rw [hs]; decide
  obtain ⟨s, hss⟩ : ∃ s, s = s0 := ⟨_, rfl⟩; rw [← hss] at hs e1 ⊢; have HSS := Aside0.mk hss
  have hs18 : (s.size : Int) = 18 := by omega
  clear hss
  go_enter Try.func14, Try.ntmps14
  go_wp2_with fail
  go_step3
  go_wp2_with fail
  go_step3
  go_wp2_with fail
  have hn0 := World.alloc_heap_new W (.cells #[.string s, .int .i64 0, .int .i64 (-1), .slice none 0 0, .slice none 0 0] 72); have hb0 : Below W.heap.size W (W.alloc (.cells #[.string s, .int .i64 0, .int .i64 (-1), .slice none 0 0, .slice none 0 0] 72)) := (Below.refl _ _).alloc (Nat.le_refl _) _; obtain ⟨W0, hW0⟩ : ∃ W0, W.alloc (.cells #[.string s, .int .i64 0, .int .i64 (-1), .slice none 0 0, .slice none 0 0] 72) = W0 := ⟨_, rfl⟩; rw [hW0] at hn0 hb0 ⊢; obtain ⟨g, hg⟩ : ∃ g, g = W.heap.size := ⟨_, rfl⟩; have HG := Aside0.mk hg; rw [← hg] at hn0 hb0 ⊢; rw [HSS.out] at hn0; have HN0 := Aside0.mk (show St g g 0 0 W0 from ⟨Nat.le_refl _, vnil, vnil, hn0, rfl, rfl⟩); have HB0 := Aside0.mk hb0; clear hn0 hb0 hW0 hg
  go_loopg [] 8 (fun gk wr_ => ∃ k : Nat, k ≤ 7 ∧ 7 - k < gk ∧ Aside0 (St g g k (posA k) wr_) ∧ Aside0 (Below g W wr_))
  case atStart => exact ⟨0, by omega, by omega, HN0, HB0⟩
  case round =>
    obtain ⟨k, hk7, hgk, HST, HB⟩ := hrel; obtain ⟨g', rfl⟩ : ∃ g', gk = g' + 1 := ⟨gk - 1, by omega⟩; have hpb := posB_eq k hk7; have HPB := Aside0.mk hpb; clear hpb
    go_wp2_with fail
    refine (longest_st HST.out (posA_le k)).mono ?_; rintro e w1 ⟨⟨v, rfl⟩, hst, hb1⟩; rw [HPB.out] at hst; have HST1 := Aside0.mk hst; have HB1 := Aside0.mk (HB.out.trans hb1); obtain ⟨hgg, vl, vs, hP, hS⟩ := hst; obtain ⟨c0, c1, c2, c3, c4⟩ := hP.cells; have HSX := Aside0.mk hS; clear hb1 hP hS hgg
    by_cases hk : k = 7
    · subst hk; have e2 : (((posB 7 : Nat) : Int) == 18) = true := rfl; have e3 : ((posB 7 : Nat) : Int) = 18 := rfl; rw [e3] at c1; obtain ⟨b, c, rfl, h4, hC⟩ := l0_reads HSX.out; obtain ⟨As, cs, rfl⟩ := (show ∃ A c, vs = .slice A 0 c from HSX.out.choose_spec.choose_spec.choose_spec.1); have H4 := Aside0.mk h4; have HC := Aside0.mk hC; clear h4 hC
      go_wp2_with fail
      refine (term_Result.calls 100 (some ⟨b, 0, none⟩) c l0 0 w1 HC.out H4.out res0).mono ?_; rintro e w2 ⟨rfl, hb2⟩; have c3' := pw_cell_below hb2 c3; have HC2 := Aside0.mk (Kd.C_below HC.out hb2); have HB2 := Aside0.mk (q14 (show Below W.heap.size W w1 by rw [← HG.out]; exact HB1.out) hb2); clear hb2
      go_wp2_with fail
      (try rw [Exit.noGoto_ret])
      go_ret3
      exact ⟨b, c, rfl, H4.out, HC2.out, HB2.out⟩
    · have hk' : k < 7 := by omega
      have hq := posB_lt k hk'; obtain ⟨q, hqd⟩ : ∃ q, q = posB k := ⟨_, rfl⟩; rw [← hqd] at hq c1; have hqd' := hqd.symm
      have e2 : ((q : Int) == 18) = false := by simp; omega
      clear hqd hqd' hq
      go_wp2_with fail
      refine (st_item hk' HST1.out).mono ?_; rintro e w2 ⟨rfl, hst2, hb2⟩; have HST2 := Aside0.mk hst2; have HB2 := Aside0.mk (HB1.out.trans hb2); clear hst2 hb2
      go_wp2_with fail
      go_roundg g'
      case measure => omega
      case rel => exact ⟨k + 1, by omega, by omega, HST2, HB2⟩
end Go.Proofs.Ytdbjjaodkapikaa.TE
namespace Go.Proofs.Ytdbjjaodkapikaa.TE
open Go.RowKit Go.Shelf Go.Proofs.YtdbjjaodkapikaaW.PrintWords Go.Proofs.YtdbjjaodkapikaaW.PrintLast Go.Proofs.YtdbjjaodkapikaaW.PrintMore Go.Proofs.Ytdbjjaodkapikaa.Evs
set_option linter.unusedVariables false
set_option linter.unusedSimpArgs false
theorem txl0 : txl none l0 = [39, 97, 98, 39, 32, 115, 46, 49, 32, 40, 60, 70, 32, 101, 46, 120, 62, 41] := by kernel_rfl
theorem text0 : textS 0 l0 = ⟨#[39, 97, 98, 39, 32, 115, 46, 49, 32, 40, 60, 70, 32, 101, 46, 120, 62, 41]⟩ := by unfold textS; rw [txl0]; rfl
theorem texte0 : textE 0 l0 = 0 := by unfold textE; rw [txl0]; rfl
theorem flat0 : flat l0 = [⟨1, ⟨#[97]⟩, []⟩, ⟨1, ⟨#[98]⟩, []⟩, ⟨5, ⟨#[49]⟩, []⟩, ⟨4, ⟨#[]⟩, [⟨8, ⟨#[70]⟩, [⟨7, ⟨#[120]⟩, []⟩]⟩]⟩, ⟨8, ⟨#[70]⟩, [⟨7, ⟨#[120]⟩, []⟩]⟩, ⟨7, ⟨#[120]⟩, []⟩] := by kernel_rfl
theorem wok0 : Wok l0 := by unfold Wok; rw [flat0]; decide
theorem name0 : nameB 5 ⟨#[49]⟩ = ⟨#[115, 46, 49]⟩ := by kernel_rfl
set_option maxRecDepth 100000 in
set_option maxHeartbeats 4000000 in
theorem awake.calls (W : World) : Calls Try.prog 11 #[] W fun e W' => e = .returned (.bool true) ∧ Below W.heap.size W W' := by
  go_enter Try.func11, Try.ntmps11
  go_wp2_with fail
  refine (Parse0.calls W).mono ?_; rintro e w1 ⟨b, c, rfl, h4, hC, hb1⟩; have H4 := Aside0.mk h4; have HC := Aside0.mk hC; have HB1 := Aside0.mk hb1; clear h4 hC hb1
  go_wp2_with fail
  have ht := Text.calls 100 (some ⟨b, 0, none⟩) c l0 0 w1 HC.out H4.out res0 (fun _ => ⟨wok0, by rw [txl0]; decide⟩); rw [text0, texte0] at ht; refine ht.mono ?_; clear ht; rintro e w2 ⟨rfl, hb2⟩; have hC2 := Kd.C_below HC.out hb2; have HB2 := Aside0.mk (q14 HB1.out hb2); obtain ⟨ad, A2, c2, hae, x0, x1, x2, l2, g2⟩ := at_T42 hC2 2 (by decide) (by decide); have r2 : rd_T42 l0 2 = ⟨5, ⟨#[49]⟩, []⟩ := rfl; rw [r2] at x0 x1 x2 g2 l2
  obtain rfl : (⟨b, 0, none⟩ : Addr) = ad := by injection hae
  have y0 : w2.cell? ⟨b, 6, none⟩ = some (.int .i64 5) := x0; have y1 : w2.cell? ⟨b, 7, none⟩ = some (.string ⟨#[49]⟩) := x1; have y2 : w2.cell? ⟨b, 8, none⟩ = some (.slice A2 0 c2) := x2; have HG2 := Aside0.mk g2; have HL2 := Aside0.mk l2; clear hb2 hC2 g2 l2 x0 x1 x2 r2 hae
  go_wp2_with fail
  have hn := Name.calls 5 ⟨#[49]⟩ A2 c2 [] w2 HG2.out HL2.out (by decide); rw [name0] at hn; refine hn.mono ?_; clear hn; rintro e w3 ⟨rfl, hb3⟩; have HB3 := Aside0.mk (q14 HB2.out hb3); clear hb3
  go_wp2_with fail
  go_ret; exact ⟨rfl, HB3.out⟩
end Go.Proofs.Ytdbjjaodkapikaa.TE
end
