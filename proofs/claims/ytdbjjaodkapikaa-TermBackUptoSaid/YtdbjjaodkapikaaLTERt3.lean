/- What Text writes, Parse reads: the expressions. -/
import Derived.Test.YtdbjjaodkapikaaLTEPq
import Derived.Test.YtdbjjaodkapikaaLTEPi2
import Derived.Test.YtdbjjaodkapikaaLTEPi4
import Derived.Test.YtdbjjaodkapikaaLTEPi7
import Derived.Test.YtdbjjaodkapikaaLTEWrites
section
namespace Go.Proofs.Ytdbjjaodkapikaa.TE
open Go.RowKit Go.Shelf Go.Proofs.YtdbjjaodkapikaaW.PrintWords Go.Proofs.YtdbjjaodkapikaaW.PrintLast Go.Proofs.YtdbjjaodkapikaaW.PrintMore Go.Proofs.Ytdbjjaodkapikaa.Evs
set_option linter.unusedVariables false
set_option linter.unusedSimpArgs false
set_option maxRecDepth 100000 in
set_option maxHeartbeats 4000000 in
theorem PS.item_none {w0 W : World} {g a : Nat} {s : ByteArray} {fault : Int} {l : List Tm} {st : List Op} (h : PS w0 W g s a fault l st) (hs : s.size ≤ 1048576) (b : UInt8)
    (ha : a < s.size) (hc : s[a]'ha = b) (h39 : b.toNat ≠ 39) (h34 : b.toNat ≠ 34) (h40 : b.toNat ≠ 40) (h60 : b.toNat ≠ 60) (h41 : b.toNat ≠ 41) (h62 : b.toNat ≠ 62) (hcl1 : clsB 1 b = false) (hcl2 : clsB 2 b = false) (hm : ¬ (b.toNat = 45 ∧ clsAt 2 s (a + 1) = true)) :
    Calls Try.prog 61 #[.pointer (some ⟨g, 0, none⟩)] W fun e W' => e = .returned (.bool false) ∧ PS w0 W' g s (a : Int) (failF fault a) l st := by
  have hbl : Below W.heap.size W (W.alloc (.cells #[.pointer (some ⟨g, 0, none⟩)] 69)) := (Below.refl _ _).alloc (Nat.le_refl _) _; have hn0 := World.alloc_heap_new W (.cells #[.pointer (some ⟨g, 0, none⟩)] 69); obtain ⟨W0, hW0⟩ : ∃ W0, W.alloc (.cells #[.pointer (some ⟨g, 0, none⟩)] 69) = W0 := ⟨_, rfl⟩; have HW0 := Aside0.mk hW0; rw [hW0] at hbl hn0; have x0 : W0.cell? ⟨W.heap.size, 0, none⟩ = some (.pointer (some ⟨g, 0, none⟩)) := (q5 hn0 0).trans rfl; have hp0 : PM W.heap.size w0 W0 g s a fault l st := h.pm.newer hbl; obtain ⟨p0, p1, p2, pf1⟩ := hp0.cells
  have hfo := fun n => followed.calls W.heap.size g a s 2 (W0.drewN n) x0 p0 p1 hs ha
  have HFO := Aside0.mk hfo; clear hfo; have ha0 : (0 : Int) ≤ (a : Int) := Int.natCast_nonneg _
  have ha1 : (a : Int) < (s.size : Int) := by omega
  have hbt : ((s[a]'ha).toNat : Int) = (b.toNat : Int) := by rw [hc]
  have e39 : ((b.toNat : Int) == 39) = false := by simp; omega
  have e34 : ((b.toNat : Int) == 34) = false := by simp; omega
  have e40 : ((b.toNat : Int) == 40) = false := by simp; omega
  have e60 : ((b.toNat : Int) == 60) = false := by simp; omega
  have e41 : ((b.toNat : Int) == 41) = false := by simp; omega
  have e62 : ((b.toNat : Int) == 62) = false := by simp; omega
  have HIS := Aside0.mk (is_at b.toNat b rfl 1 false hcl1); have HIS2 := Aside0.mk (is_at b.toNat b rfl 2 false hcl2); have HIDX := Aside0.mk (index_at (b.toNat : Int) (-1) (by simpa using idx_letter b hcl1)); have HP0 := Aside0.mk hp0; clear h hp0 hbl hW0 hn0 hs hc h39 h34 h40 h60 h41 h62 hcl1 hcl2
  by_cases h45 : b.toNat = 45
  · have e45 : ((b.toNat : Int) == 45) = true := by simp; omega
    have hf2 : clsAt 2 s (a + 1) = false := by
      cases hx : clsAt 2 s (a + 1) with
      | false => rfl
      | true => exact absurd ⟨h45, hx⟩ hm
    have hf3 := HFO.out; rw [hf2] at hf3; have HFF := Aside0.mk hf3; clear h45 hf3 hf2 hm
    go_enter Try.func61, Try.ntmps61
    go_wp2_with fail
    rw [HW0.out]
    go_quiet (fail)
    generalize nq = nq1
    go_wp2_with fail
    go_quiet (first | (go_at_call 91; exact quiet_of2 (HIDX.out _)))
    go_wp2_with (first
      | (go_at_call 87; refine (HIS.out _).mono ?_; rintro e w' ⟨rfl, nd, rfl⟩)
      | (go_at_call 87; refine (HIS2.out _).mono ?_; rintro e w' ⟨rfl, nd2, rfl⟩)
      | (go_at_call 88; refine (HFF.out _).mono ?_; rintro e w' ⟨rfl, nd3, rfl⟩)
      | fail)
    refine (HP0.out.drewN.ps.fail (a : Int)).mono ?_; rintro e w5 ⟨rfl, hp, _⟩; have HP6 := Aside0.mk hp; clear hp
    go_wp2_with fail
    go_ret; exact ⟨rfl, HP6.out⟩
  · have e45 : ((b.toNat : Int) == 45) = false := by simp; omega
    clear h45 hm
    go_enter Try.func61, Try.ntmps61
    go_wp2_with fail
    rw [HW0.out]
    go_quiet (fail)
    generalize nq = nq1
    go_wp2_with fail
    go_quiet (first | (go_at_call 91; exact quiet_of2 (HIDX.out _)))
    go_wp2_with (first
      | (go_at_call 87; refine (HIS.out _).mono ?_; rintro e w' ⟨rfl, nd, rfl⟩)
      | (go_at_call 87; refine (HIS2.out _).mono ?_; rintro e w' ⟨rfl, nd2, rfl⟩)
      | fail)
    refine (HP0.out.drewN.ps.fail (a : Int)).mono ?_; rintro e w5 ⟨rfl, hp, _⟩; have HP6 := Aside0.mk hp; clear hp
    go_wp2_with fail
    go_ret; exact ⟨rfl, HP6.out⟩
def endN (k : Int) (a : Nat) (fault : Int) (l : List Tm) : List Op → Bool × Nat × Int × List Tm × List Op
  | [] => (false, a, failF fault a, l, [])
  | o :: r => if o.kind = k then (true, a + 1, fault, o.ahead ++ [⟨o.kind, o.text, l⟩], r) else (false, a, failF fault a, l, o :: r)
theorem endN_eq (k : Int) (a : Nat) (fault : Int) (l : List Tm) (st : List Op) : endS k (a : Int) fault l st = ((endN k a fault l st).1, ((endN k a fault l st).2.1 : Int), (endN k a fault l st).2.2) := by
  cases st with
  | nil => rfl
  | cons o r =>
    by_cases h : o.kind = k
    · simp [endS, endN, h]
    · simp [endS, endN, h]
def itemS (s : ByteArray) (a : Nat) (ha : a < s.size) (fault : Int) (l : List Tm) (st : List Op) : Bool × Nat × Int × List Tm × List Op :=
  if (s[a]'ha).toNat = 39 then ((quoS s (s[a]'ha) (a + 1) []).1, (quoS s (s[a]'ha) (a + 1) []).2.1, failO fault (quoS s (s[a]'ha) (a + 1) []).2.2.1, l ++ chrL ⟨(quoS s (s[a]'ha) (a + 1) []).2.2.2.toArray⟩, st)
  else if (s[a]'ha).toNat = 34 then ((wordQ l a fault (quoS s (s[a]'ha) (a + 1) [])).1, (quoS s (s[a]'ha) (a + 1) []).2.1, (wordQ l a fault (quoS s (s[a]'ha) (a + 1) [])).2.1, (wordQ l a fault (quoS s (s[a]'ha) (a + 1) [])).2.2, st)
  else if varAt s a = true then ((tokS s (5 + Lib.indexByte [115, 116, 101] (s[a]'ha)) (s.extract (a + 2) (endF 3 s (a + 2))) a (endF 3 s (a + 2)) fault l).1, endF 3 s (a + 2), (tokS s (5 + Lib.indexByte [115, 116, 101] (s[a]'ha)) (s.extract (a + 2) (endF 3 s (a + 2))) a (endF 3 s (a + 2)) fault l).2.1, (tokS s (5 + Lib.indexByte [115, 116, 101] (s[a]'ha)) (s.extract (a + 2) (endF 3 s (a + 2))) a (endF 3 s (a + 2)) fault l).2.2, st)
  else if clsB 1 (s[a]'ha) = true then ((tokS s 2 (s.extract a (endF 4 s a)) a (endF 4 s a) fault l).1, endF 4 s a, (tokS s 2 (s.extract a (endF 4 s a)) a (endF 4 s a) fault l).2.1, (tokS s 2 (s.extract a (endF 4 s a)) a (endF 4 s a) fault l).2.2, st)
  else if clsB 2 (s[a]'ha) = true ∨ (s[a]'ha).toNat = 45 ∧ clsAt 2 s (a + 1) = true then ((tokS s 3 (s.extract a (endF 2 s (a + 1))) a (endF 2 s (a + 1)) fault l).1, endF 2 s (a + 1), (tokS s 3 (s.extract a (endF 2 s (a + 1))) a (endF 2 s (a + 1)) fault l).2.1, (tokS s 3 (s.extract a (endF 2 s (a + 1))) a (endF 2 s (a + 1)) fault l).2.2, st)
  else if (s[a]'ha).toNat = 40 then (true, a + 1, fault, [], ⟨l, 4, ⟨#[]⟩⟩ :: st)
  else if (s[a]'ha).toNat = 60 then callS s a fault l st
  else if (s[a]'ha).toNat = 41 then endN 4 a fault l st
  else if (s[a]'ha).toNat = 62 then endN 8 a fault l st
  else (false, a, failF fault a, l, st)
theorem PS.item {w0 W : World} {g a : Nat} {s : ByteArray} {fault : Int} {l : List Tm} {st : List Op} (h : PS w0 W g s a fault l st) (hs : s.size ≤ 1048576) (ha : a < s.size) (hl : l.length ≤ 1048576) (hst : st.length ≤ 1048576) (hal : ∀ o ∈ st, o.ahead.length ≤ 1048576) :
    Calls Try.prog 61 #[.pointer (some ⟨g, 0, none⟩)] W fun e W' => e = .returned (.bool (itemS s a ha fault l st).1) ∧ PS w0 W' g s ((itemS s a ha fault l st).2.1 : Nat) (itemS s a ha fault l st).2.2.1 (itemS s a ha fault l st).2.2.2.1 (itemS s a ha fault l st).2.2.2.2 := by
  have hl' : l.length ≤ 1099511627776 := by omega
  have hst' : st.length ≤ 1099511627776 := by omega
  have hal' : ∀ o ∈ st, o.ahead.length ≤ 1099511627776 := fun o ho => Nat.le_trans (hal o ho) (by decide)
  by_cases h39 : (s[a]'ha).toNat = 39
  · have e : itemS s a ha fault l st = ((quoS s (s[a]'ha) (a + 1) []).1, (quoS s (s[a]'ha) (a + 1) []).2.1, failO fault (quoS s (s[a]'ha) (a + 1) []).2.2.1, l ++ chrL ⟨(quoS s (s[a]'ha) (a + 1) []).2.2.2.toArray⟩, st) := by unfold itemS; rw [if_pos h39]
    rw [e]; exact h.item_chars hs hl ha h39 _ rfl
  by_cases h34 : (s[a]'ha).toNat = 34
  · have e : itemS s a ha fault l st = ((wordQ l a fault (quoS s (s[a]'ha) (a + 1) [])).1, (quoS s (s[a]'ha) (a + 1) []).2.1, (wordQ l a fault (quoS s (s[a]'ha) (a + 1) [])).2.1, (wordQ l a fault (quoS s (s[a]'ha) (a + 1) [])).2.2, st) := by unfold itemS; rw [if_neg h39, if_pos h34]
    rw [e]; exact h.item_quoted hs hl ha h34 _ rfl
  by_cases hv : varAt s a = true
  · have e := hv; unfold varAt at hv
    by_cases h1 : a + 1 < s.size
    · rw [dif_pos h1] at hv; simp only [Bool.and_eq_true, decide_eq_true_eq] at hv
      rcases idx_cases (s[a]'ha) with hi | ⟨i, hi3, hi⟩
      · omega
      · have e2 : itemS s a ha fault l st = ((tokS s (5 + i) (s.extract (a + 2) (endF 3 s (a + 2))) a (endF 3 s (a + 2)) fault l).1, endF 3 s (a + 2), (tokS s (5 + i) (s.extract (a + 2) (endF 3 s (a + 2))) a (endF 3 s (a + 2)) fault l).2.1, (tokS s (5 + i) (s.extract (a + 2) (endF 3 s (a + 2))) a (endF 3 s (a + 2)) fault l).2.2, st) := by unfold itemS; rw [if_neg h39, if_neg h34, if_pos e, hi]
        rw [e2]; exact h.item_var hs hl' (s[a]'ha) i h1 rfl hv.2 h39 h34 hi hi3 _ rfl
    · rw [dif_neg h1] at hv; cases hv
  by_cases h1 : clsB 1 (s[a]'ha) = true
  · have e : itemS s a ha fault l st = ((tokS s 2 (s.extract a (endF 4 s a)) a (endF 4 s a) fault l).1, endF 4 s a, (tokS s 2 (s.extract a (endF 4 s a)) a (endF 4 s a) fault l).2.1, (tokS s 2 (s.extract a (endF 4 s a)) a (endF 4 s a) fault l).2.2, st) := by unfold itemS; rw [if_neg h39, if_neg h34, if_neg hv, if_pos h1]
    rw [e]; exact h.item_word hs hl' (s[a]'ha) ha rfl (by simpa using hv) h1 _ rfl
  by_cases h2 : clsB 2 (s[a]'ha) = true ∨ (s[a]'ha).toNat = 45 ∧ clsAt 2 s (a + 1) = true
  · have e : itemS s a ha fault l st = ((tokS s 3 (s.extract a (endF 2 s (a + 1))) a (endF 2 s (a + 1)) fault l).1, endF 2 s (a + 1), (tokS s 3 (s.extract a (endF 2 s (a + 1))) a (endF 2 s (a + 1)) fault l).2.1, (tokS s 3 (s.extract a (endF 2 s (a + 1))) a (endF 2 s (a + 1)) fault l).2.2, st) := by unfold itemS; rw [if_neg h39, if_neg h34, if_neg hv, if_neg h1, if_pos h2]
    rw [e]; exact h.item_number hs hl' (s[a]'ha) ha rfl h2 _ rfl
  by_cases h40 : (s[a]'ha).toNat = 40
  · have e : itemS s a ha fault l st = (true, a + 1, fault, [], ⟨l, 4, ⟨#[]⟩⟩ :: st) := by unfold itemS; rw [if_neg h39, if_neg h34, if_neg hv, if_neg h1, if_neg h2, if_pos h40]
    rw [e]; exact h.item_open hs ha hst' h40
  by_cases h60 : (s[a]'ha).toNat = 60
  · have e : itemS s a ha fault l st = callS s a fault l st := by unfold itemS; rw [if_neg h39, if_neg h34, if_neg hv, if_neg h1, if_neg h2, if_neg h40, if_pos h60]
    rw [e]; exact h.item_call hs ha hst' h60
  by_cases h41 : (s[a]'ha).toNat = 41
  · have e : itemS s a ha fault l st = endN 4 a fault l st := by unfold itemS; rw [if_neg h39, if_neg h34, if_neg hv, if_neg h1, if_neg h2, if_neg h40, if_neg h60, if_pos h41]
    have := h.item_shut hs ha hst' hal' h41; rw [endN_eq] at this; rw [e]; exact this
  by_cases h62 : (s[a]'ha).toNat = 62
  · have e : itemS s a ha fault l st = endN 8 a fault l st := by unfold itemS; rw [if_neg h39, if_neg h34, if_neg hv, if_neg h1, if_neg h2, if_neg h40, if_neg h60, if_neg h41, if_pos h62]
    have := h.item_done hs ha hst' hal' h62; rw [endN_eq] at this; rw [e]; exact this
  have e : itemS s a ha fault l st = (false, a, failF fault a, l, st) := by unfold itemS; rw [if_neg h39, if_neg h34, if_neg hv, if_neg h1, if_neg h2, if_neg h40, if_neg h60, if_neg h41, if_neg h62]
  rw [e]; exact h.item_none hs (s[a]'ha) ha rfl h39 h34 h40 h60 h41 h62 (by simpa using h1) (by cases hx : clsB 2 (s[a]'ha) with | false => rfl | true => exact absurd (.inl hx) h2) (fun hx => h2 (.inr hx))
end Go.Proofs.Ytdbjjaodkapikaa.TE
end
section
namespace Go.Proofs.Ytdbjjaodkapikaa.TE
open Go.RowKit Go.Shelf Go.Proofs.YtdbjjaodkapikaaW.PrintWords Go.Proofs.YtdbjjaodkapikaaW.PrintLast Go.Proofs.YtdbjjaodkapikaaW.PrintMore Go.Proofs.Ytdbjjaodkapikaa.Evs
set_option linter.unusedVariables false
set_option linter.unusedSimpArgs false
theorem bks_app2 : ∀ a b : List Tm, bk42s (a ++ b) = bk42s a + bk42s b
  | [], b => by simp [bk42s]
  | x :: r, b => by have := bks_app2 r b; simp only [List.cons_append, bk42s, this]; omega
theorem bks_len : ∀ l : List Tm, l.length ≤ bk42s l
  | [] => Nat.zero_le _
  | ⟨k, t, ks⟩ :: r => by have := bks_len r; simp only [List.length_cons, bk42s, bk42]; omega
theorem bks_chars : ∀ out : List UInt8, bk42s (out.map (fun b => (⟨1, ⟨#[b]⟩, []⟩ : Tm))) = 5 * out.length
  | [] => rfl
  | b :: r => by
    have := bks_chars r; have h1 : (⟨#[b]⟩ : ByteArray).size = 1 := rfl; simp only [List.map_cons, bk42s, bk42, this, List.length_cons, h1]; omega
theorem bks_chr (out : List UInt8) : bk42s (chrL ⟨out.toArray⟩) = 5 * out.length := bks_chars out
theorem ext_size (s : ByteArray) (a b : Nat) : (s.extract a b).size ≤ b - a := by
  have h := size_len (s.extract a b); rw [extract_list, List.length_take] at h
  omega
def AOk (n a : Nat) (acc : List UInt8) : QR → Prop
  | .done ok at_ _ out => ok = true → out.length + a + 1 ≤ acc.length + at_ ∧ at_ ≤ n
  | .more _ _ => True
theorem quoR_aok (s : ByteArray) (q : UInt8) (a : Nat) (acc : List UInt8) : AOk s.size a acc (quoR s q a acc) := by
  unfold quoR
  have no : ∀ x y z, AOk s.size a acc (.done false x y z) := fun x y z h => by cases h
  refine dite_okQ (fun h => ?_) (fun h => no _ _ _); refine ite_okQ (fun _ => ⟨by omega, h⟩) (ite_okQ (no _ _ _) (ite_okQ trivial (dite_okQ (fun h1 => ?_) (fun _ => no _ _ _)))); refine ite_okQ trivial (ite_okQ trivial (ite_okQ trivial (ite_okQ (dite_okQ (fun h3 => ?_) (fun _ => no _ _ _)) (no _ _ _)))); exact ite_okQ (no _ _ _) trivial
theorem quoS_adv (s : ByteArray) (q : UInt8) : ∀ (n a : Nat) (acc : List UInt8), s.size - a ≤ n → (quoS s q a acc).1 = true → (quoS s q a acc).2.2.2.length + a + 1 ≤ acc.length + (quoS s q a acc).2.1 ∧ (quoS s q a acc).2.1 ≤ s.size := by
  intro n
  induction n with
  | zero =>
    intro a acc hn; have hd := quoR_aok s q a acc; rw [quoS]
    split
    · rename_i h'; rw [h'] at hd; exact hd
    · rename_i h'; have := quoR_lt h'; omega
  | succ n ih =>
    intro a acc hn; have hd := quoR_aok s q a acc; rw [quoS]
    split
    · rename_i h'; rw [h'] at hd; exact hd
    · rename_i a' acc' h'; have h1 := quoR_lt h'; have := ih a' acc' (by omega); intro ht; have := this ht; omega
def stTot : List Op → Nat
  | [] => 0
  | o :: r => bk42s o.ahead + o.text.size + 4 + stTot r
theorem stTot_len : ∀ st : List Op, st.length ≤ stTot st
  | [] => Nat.zero_le _
  | o :: r => by have := stTot_len r; simp only [List.length_cons, stTot]; omega
theorem stTot_ahead : ∀ (st : List Op) (o : Op), o ∈ st → o.ahead.length ≤ stTot st
  | p :: r, o, h => by
    rcases List.mem_cons.1 h with rfl | h
    · have := bks_len o.ahead; simp only [stTot]; omega
    · have := stTot_ahead r o h; simp only [stTot]; omega
theorem tokS_ok {s : ByteArray} {k : Int} {tx : ByteArray} {x a : Nat} {fault : Int} {l : List Tm} (h : (tokS s k tx x a fault l).1 = true) : (tokS s k tx x a fault l).2.2 = l ++ [⟨k, tx, []⟩] ∧ (tokS s k tx x a fault l).2.1 = fault := by
  unfold tokS at h ⊢
  split at h
  · rename_i h1
    split at h
    · cases h
    · rename_i h2; rw [if_pos h1, if_neg h2]; exact ⟨rfl, rfl⟩
  · cases h
theorem itemS_ok {s : ByteArray} {a : Nat} {ha : a < s.size} {fault : Int} {l : List Tm} {st : List Op} (h : (itemS s a ha fault l st).1 = true) :
    bk42s (itemS s a ha fault l st).2.2.2.1 + stTot (itemS s a ha fault l st).2.2.2.2 + 5 * a ≤ bk42s l + stTot st + 5 * (itemS s a ha fault l st).2.1 ∧ a < (itemS s a ha fault l st).2.1 ∧ (itemS s a ha fault l st).2.1 ≤ s.size := by
  unfold itemS at h ⊢
  split at h
  · rename_i c1
    rw [if_pos c1]; have hq := quoS_adv s (s[a]'ha) _ (a + 1) [] (Nat.le_refl _) h; simp only [bks_app2, bks_chr]; simp only [List.length_nil] at hq
    omega
  · rename_i c1
    rw [if_neg c1]
    split at h
    · rename_i c2
      rw [if_pos c2]; unfold wordQ at h ⊢; simp only at h ⊢
      split at h
      · rename_i c3
        rw [if_pos c3]
        split at h
        · rename_i c4
          rw [if_pos c4]; have hq := quoS_adv s (s[a]'ha) _ (a + 1) [] (Nat.le_refl _) c3; simp only [List.length_nil] at hq
          have hz : (⟨(quoS s (s[a]'ha) (a + 1) []).2.2.2.toArray⟩ : ByteArray).size = (quoS s (s[a]'ha) (a + 1) []).2.2.2.length := by show Array.size _ = _; simp
          simp only [bks_app2, bk42s, bk42, hz]
          omega
        · cases h
      · cases h
    · rename_i c2
      rw [if_neg c2]
      split at h
      · rename_i c3
        rw [if_pos c3]
        have hx : a + 1 < s.size := by
          unfold varAt at c3
          by_cases h1 : a + 1 < s.size
          · exact h1
          · rw [dif_neg h1] at c3; cases c3
        have ht := (tokS_ok h).1; have he := ext_size s (a + 2) (endF 3 s (a + 2)); have g1 := endF_ge 3 s (a + 2); have g2 := endF_le 3 s (a + 2) (by omega); simp only [ht, bks_app2, bk42s, bk42]
        omega
      · rename_i c3
        rw [if_neg c3]
        split at h
        · rename_i c4
          rw [if_pos c4]; have ht := (tokS_ok h).1; have he := ext_size s a (endF 4 s a)
          have g0 : a < endF 4 s a := by
            have hcl : ∀ b : UInt8, clsB 1 b = true → clsB 4 b = true := by
              intro b; revert b; refine byte_all _ ?_; decide +kernel
            have := endF_step 4 s a ha; rw [if_pos (hcl _ c4)] at this; have := endF_ge 4 s (a + 1)
            omega
          have g2 := endF_le 4 s a (by omega); simp only [ht, bks_app2, bk42s, bk42]
          omega
        · rename_i c4
          rw [if_neg c4]
          split at h
          · rename_i c5
            rw [if_pos c5]; have ht := (tokS_ok h).1; have he := ext_size s a (endF 2 s (a + 1)); have g1 := endF_ge 2 s (a + 1); have g2 := endF_le 2 s (a + 1) (by omega); simp only [ht, bks_app2, bk42s, bk42]
            omega
          · rename_i c5
            rw [if_neg c5]
            split at h
            · rename_i c6
              rw [if_pos c6]; have : (⟨#[]⟩ : ByteArray).size = 0 := rfl; simp only [stTot, bk42s, this]
              omega
            · rename_i c6
              rw [if_neg c6]
              split at h
              · rename_i c7
                rw [if_pos c7]; unfold callS at h ⊢
                split at h
                · rename_i c8
                  rw [if_pos c8]
                  split at h
                  · rename_i c9
                    rw [if_pos c9]
                    split at h
                    · cases h
                    · rename_i c10
                      rw [if_neg c10]; have g1 := endF_ge 8 s (a + 1); have g2 := endF_le 8 s (a + 1) (by omega); have g3 := endF_ge 4 s (endF 8 s (a + 1)); have g4 := endF_le 4 s (endF 8 s (a + 1)) g2; have he := ext_size s (endF 8 s (a + 1)) (endF 4 s (endF 8 s (a + 1))); simp only [stTot, bk42s]
                      omega
                  · cases h
                · cases h
              · rename_i c7
                rw [if_neg c7]
                have hend : ∀ k, (endN k a fault l st).1 = true → bk42s (endN k a fault l st).2.2.2.1 + stTot (endN k a fault l st).2.2.2.2 + 5 * a ≤ bk42s l + stTot st + 5 * (endN k a fault l st).2.1 ∧ a < (endN k a fault l st).2.1 ∧ (endN k a fault l st).2.1 ≤ s.size := by
                  intro k hk
                  cases st with
                  | nil => cases hk
                  | cons o r =>
                    by_cases c : o.kind = k
                    · simp only [endN, if_pos c, bks_app2, bk42s, bk42, stTot]
                      omega
                    · simp only [endN, if_neg c] at hk; cases hk
                split at h
                · rename_i c8
                  rw [if_pos c8]; exact hend 4 h
                · rename_i c8
                  rw [if_neg c8]
                  split at h
                  · rename_i c9
                    rw [if_pos c9]; exact hend 8 h
                  · cases h
def parF (s : ByteArray) : Nat → Nat → Int → List Tm → List Op → Bool × Int × List Tm × List Op
  | 0, _, fault, l, st => (false, fault, l, st)
  | n + 1, a, fault, l, st =>
    if h : endF 8 s a < s.size then
      (if (itemS s (endF 8 s a) h fault l st).1 = true then parF s n (itemS s (endF 8 s a) h fault l st).2.1 (itemS s (endF 8 s a) h fault l st).2.2.1 (itemS s (endF 8 s a) h fault l st).2.2.2.1 (itemS s (endF 8 s a) h fault l st).2.2.2.2
       else (false, (itemS s (endF 8 s a) h fault l st).2.2.1, [], []))
    else (true, fault, l, st)
def parseS (s : ByteArray) : List Tm × Int × Int :=
  if 40000 < s.size then ([], 0, 7)
  else if (parF s (s.size + 2) 0 (-1) [] []).1 = true then
    (if (parF s (s.size + 2) 0 (-1) [] []).2.2.2.length = 0 then
      (if checkS 8 (parF s (s.size + 2) 0 (-1) [] []).2.2.1 = 0 then ((parF s (s.size + 2) 0 (-1) [] []).2.2.1, 0, 0) else ([], 0, checkS 8 (parF s (s.size + 2) 0 (-1) [] []).2.2.1))
     else ([], (s.size : Int), 3))
  else ([], (parF s (s.size + 2) 0 (-1) [] []).2.1, 3)
end Go.Proofs.Ytdbjjaodkapikaa.TE
end
section
namespace Go.Proofs.Ytdbjjaodkapikaa.TE
open Go.RowKit Go.Shelf Go.Proofs.YtdbjjaodkapikaaW.PrintWords Go.Proofs.YtdbjjaodkapikaaW.PrintLast Go.Proofs.YtdbjjaodkapikaaW.PrintMore Go.Proofs.Ytdbjjaodkapikaa.Evs
set_option linter.unusedVariables false
set_option linter.unusedSimpArgs false
theorem drop_get {s : ByteArray} {a : Nat} {b : UInt8} {r : List UInt8} (h : s.data.toList.drop a = b :: r) : ∃ h' : a < s.size, s[a]'h' = b ∧ s.data.toList.drop (a + 1) = r := by
  have hl : a < s.data.toList.length := by
    rcases Nat.lt_or_ge a s.data.toList.length with h1 | h1
    · exact h1
    · rw [List.drop_of_length_le h1] at h; cases h
  have h' : a < s.size := by rw [size_len]; exact hl
  have he : s.data.toList[a]'hl = s[a]'h' := by simp; rfl
  rw [List.drop_eq_getElem_cons hl] at h
  injection h with h1 h2
  exact ⟨h', by rw [← he]; exact h1, h2⟩
theorem drop_end {s : ByteArray} {a : Nat} (h : s.data.toList.drop a = []) : ¬ a < s.size := by
  have := List.drop_eq_nil_iff.1 h; rw [← size_len] at this; omega
theorem drop_more {s : ByteArray} {a : Nat} {w r : List UInt8} (h : s.data.toList.drop a = w ++ r) : s.data.toList.drop (a + w.length) = r := by
  rw [← List.drop_drop, h, List.drop_left]
theorem endF_word {m : Int} {s : ByteArray} {a : Nat} {w r : List UInt8} (h : s.data.toList.drop a = w ++ r) (hw : ∀ b ∈ w, clsB m b = true) (hr : ∀ b, r.head? = some b → clsB m b = false) : endF m s a = a + w.length := by
  unfold endF; rw [h, List.takeWhile_append_of_pos hw]
  have : r.takeWhile (clsB m) = [] := by
    cases r with
    | nil => rfl
    | cons b r => rw [List.takeWhile_cons, if_neg (by rw [hr b rfl]; decide)]
  rw [this, List.append_nil]
theorem ext_word {s : ByteArray} {a : Nat} {w r : List UInt8} {t : ByteArray} (h : s.data.toList.drop a = w ++ r) (ht : t.data.toList = w) : s.extract a (a + w.length) = t := by
  have : (s.extract a (a + w.length)).data.toList = t.data.toList := by
    rw [extract_list, h, ht, show a + w.length - a = w.length by omega, List.take_left]
  exact ByteArray.ext (Array.ext' this)
def Stop (r : List UInt8) : Prop := ∀ b, r.head? = some b → b = 32 ∨ b = 41 ∨ b = 62
theorem Stop.cls {r : List UInt8} (h : Stop r) {m : Int} (hm : m = 1 ∨ m = 2 ∨ m = 3 ∨ m = 4) : ∀ b, r.head? = some b → clsB m b = false := by
  intro b hb
  have : ∀ m : Int, m = 1 ∨ m = 2 ∨ m = 3 ∨ m = 4 → clsB m 32 = false ∧ clsB m 41 = false ∧ clsB m 62 = false := by
    rintro m (rfl | rfl | rfl | rfl) <;> decide
  have := this m hm
  rcases h b hb with rfl | rfl | rfl
  · exact this.1
  · exact this.2.1
  · exact this.2.2
theorem Stop.on {r : List UInt8} {s : ByteArray} {a : Nat} (h : Stop r) (hd : s.data.toList.drop a = r) : onB s a = false := by
  unfold onB
  cases r with
  | nil => rw [dif_neg (drop_end hd)]
  | cons b r =>
    obtain ⟨h1, h2, _⟩ := drop_get hd; rw [dif_pos h1, h2]
    rcases h b rfl with rfl | rfl | rfl <;> decide
theorem cls_let (b : UInt8) : clsB 1 b = isLet b := by revert b; refine byte_all _ ?_; decide +kernel
theorem cls_dig (b : UInt8) : clsB 2 b = isDig b := by revert b; refine byte_all _ ?_; decide +kernel
theorem cls_inn (b : UInt8) : clsB 4 b = isInn b := by revert b; refine byte_all _ ?_; decide +kernel
theorem cls_ld (b : UInt8) : clsB 3 b = (isLet b || isDig b) := by revert b; refine byte_all _ ?_; decide +kernel
theorem hexV_d (x : Nat) (h : x < 16) : hexV (hexd x) = (x : Int) := by
  have : ∀ x : Fin 16, hexV (hexd x.val) = (x.val : Int) := by decide
  exact this ⟨x, h⟩
theorem hexB_d (c : UInt8) : hexB ((c.toNat / 16 : Nat) : Int) ((c.toNat % 16 : Nat) : Int) = c := by
  revert c; refine byte_all _ ?_; decide +kernel
theorem quoR_esc {s : ByteArray} {q c : UInt8} {a : Nat} {acc r : List UInt8} (hd : s.data.toList.drop a = esc c q ++ r) (hq : q.toNat = 39 ∨ q.toNat = 34 ∧ 32 ≤ c.toNat ∧ c.toNat ≤ 126) : quoR s q a acc = .more (a + (esc c q).length) (acc ++ [c]) := by
  have hq92 : (92 : UInt8) ≠ q := by
    rintro rfl; have : (92 : UInt8).toNat = 92 := rfl
    omega
  have n92 : (92 : UInt8).toNat = 92 := rfl; have n110 : (110 : UInt8).toNat = 110 := rfl; have n116 : (116 : UInt8).toNat = 116 := rfl; have n120 : (120 : UInt8).toNat = 120 := rfl
  by_cases c1 : c.toNat = 92 ∨ c = q
  · have he : esc c q = [92, c] := by unfold esc; rw [if_pos c1]
    rw [he] at hd ⊢; obtain ⟨h0, e0, hd1⟩ := drop_get hd; obtain ⟨h1, e1, _⟩ := drop_get hd1; unfold quoR; rw [dif_pos h0, e0, if_neg hq92, if_neg (by rw [n92]; omega), if_neg (fun h => h n92), dif_pos h1, e1, if_pos c1]; rfl
  · by_cases c2 : c.toNat = 10
    · have h39 : q.toNat = 39 := by omega
      have hc : c = 10 := UInt8.toNat_inj.1 c2
      have he : esc c q = [92, 110] := by unfold esc; rw [if_neg c1, if_pos c2]
      rw [he] at hd ⊢; obtain ⟨h0, e0, hd1⟩ := drop_get hd; obtain ⟨h1, e1, _⟩ := drop_get hd1; unfold quoR; rw [dif_pos h0, e0, if_neg hq92, if_neg (by rw [n92]; omega), if_neg (fun h => h n92), dif_pos h1, e1, if_neg (by rw [n110]; rintro (h | h); (· omega); (· rw [← h, n110] at h39; omega)), if_pos ⟨n110, h39⟩, hc]; rfl
    · by_cases c3 : c.toNat = 9
      · have h39 : q.toNat = 39 := by omega
        have hc : c = 9 := UInt8.toNat_inj.1 c3
        have he : esc c q = [92, 116] := by unfold esc; rw [if_neg c1, if_neg c2, if_pos c3]
        rw [he] at hd ⊢; obtain ⟨h0, e0, hd1⟩ := drop_get hd; obtain ⟨h1, e1, _⟩ := drop_get hd1; unfold quoR; rw [dif_pos h0, e0, if_neg hq92, if_neg (by rw [n92]; omega), if_neg (fun h => h n92), dif_pos h1, e1, if_neg (by rw [n116]; rintro (h | h); (· omega); (· rw [← h, n116] at h39; omega)), if_neg (by rw [n116]; omega), if_pos ⟨n116, h39⟩, hc]; rfl
      · by_cases c4 : c.toNat < 32 ∨ 126 < c.toNat
        · have h39 : q.toNat = 39 := by omega
          have he : esc c q = [92, 120, hexd (c.toNat / 16), hexd (c.toNat % 16)] := by unfold esc; rw [if_neg c1, if_neg c2, if_neg c3, if_pos c4]
          rw [he] at hd ⊢; obtain ⟨h0, e0, hd1⟩ := drop_get hd; obtain ⟨h1, e1, hd2⟩ := drop_get hd1; obtain ⟨h2, e2, hd3⟩ := drop_get hd2; obtain ⟨h3, e3, _⟩ := drop_get hd3; have hc := c.toNat_lt; have v1 := hexV_d (c.toNat / 16) (by omega); have v2 := hexV_d (c.toNat % 16) (by omega); unfold quoR; rw [dif_pos h0, e0, if_neg hq92, if_neg (by rw [n92]; omega), if_neg (fun h => h n92), dif_pos h1, e1, if_neg (by rw [n120]; rintro (h | h); (· omega); (· rw [← h, n120] at h39; omega)), if_neg (by rw [n120]; omega), if_neg (by rw [n120]; omega), if_pos ⟨n120, h39⟩, dif_pos h3]; rw [show s[a + 2]'(by omega) = hexd (c.toNat / 16) from e2, show s[a + 3]'h3 = hexd (c.toNat % 16) from e3, v1, v2, if_neg (by omega), hexB_d]; rfl
        · have he : esc c q = [c] := by unfold esc; rw [if_neg c1, if_neg c2, if_neg c3, if_neg c4]
          rw [he] at hd ⊢; obtain ⟨h0, e0, hd1⟩ := drop_get hd; unfold quoR; rw [dif_pos h0, e0, if_neg (fun h => c1 (.inr h)), if_neg c4, if_pos (fun h => c1 (.inl h))]; rfl
theorem quoS_esc {s : ByteArray} {q : UInt8} : ∀ (w : List UInt8) (a : Nat) (acc r : List UInt8), s.data.toList.drop a = w.flatMap (fun c => esc c q) ++ q :: r → (q.toNat = 39 ∨ q.toNat = 34 ∧ ∀ c ∈ w, 32 ≤ c.toNat ∧ c.toNat ≤ 126) →
    quoS s q a acc = (true, a + (w.flatMap (fun c => esc c q)).length + 1, none, acc ++ w)
  | [], a, acc, r, hd, _ => by
    simp only [List.flatMap_nil, List.nil_append] at hd; obtain ⟨h0, e0, _⟩ := drop_get hd; rw [quoS_done (ok := true) (at_ := a + 1) (bad := none) (out := acc) (by unfold quoR; rw [dif_pos h0, if_pos e0])]; simp
  | c :: w, a, acc, r, hd, hq => by
    rw [List.flatMap_cons, List.append_assoc] at hd; have h1 := quoR_esc (acc := acc) hd (hq.imp id (fun h => ⟨h.1, h.2 c List.mem_cons_self⟩)); rw [quoS_more h1, quoS_esc w _ _ r (drop_more hd) (hq.imp id (fun h => ⟨h.1, fun d hd => h.2 d (List.mem_cons_of_mem _ hd)⟩))]; rw [List.flatMap_cons, List.length_append, List.append_assoc, Nat.add_assoc a]; rfl
end Go.Proofs.Ytdbjjaodkapikaa.TE
end
section
namespace Go.Proofs.Ytdbjjaodkapikaa.TE
open Go.RowKit Go.Shelf Go.Proofs.YtdbjjaodkapikaaW.PrintWords Go.Proofs.YtdbjjaodkapikaaW.PrintLast Go.Proofs.YtdbjjaodkapikaaW.PrintMore Go.Proofs.Ytdbjjaodkapikaa.Evs
set_option linter.unusedVariables false
set_option linter.unusedSimpArgs false
def Item (s : ByteArray) (a : Nat) (f : Int) (l : List Tm) (st : List Op) (a' : Nat) (l' : List Tm) (st' : List Op) : Prop :=
  ∃ ha : a < s.size, clsB 8 (s[a]'ha) = false ∧ itemS s a ha f l st = (true, a', f, l', st')
theorem item_char {s : ByteArray} {a : Nat} {w r : List UInt8} (f : Int) (l : List Tm) (st : List Op) (hd : s.data.toList.drop a = 39 :: (w.flatMap (fun c => esc c 39) ++ 39 :: r)) :
    Item s a f l st (a + (w.flatMap (fun c => esc c 39)).length + 2) (l ++ chrL ⟨w.toArray⟩) st := by
  obtain ⟨h0, e0, hd1⟩ := drop_get hd; refine ⟨h0, by rw [e0]; decide, ?_⟩; have hq := quoS_esc (q := 39) w (a + 1) [] r hd1 (.inl rfl); unfold itemS; rw [e0, if_pos (by decide), hq, List.nil_append]; show (true, a + 1 + _ + 1, failO f none, _, _) = _; rw [show a + 1 + (w.flatMap (fun c => esc c 39)).length + 1 = a + (w.flatMap (fun c => esc c 39)).length + 2 by omega]; rfl
theorem item_quo {s : ByteArray} {a : Nat} {w r : List UInt8} {t : ByteArray} (f : Int) (l : List Tm) (st : List Op) (hd : s.data.toList.drop a = 34 :: (w.flatMap (fun c => esc c 34) ++ 34 :: r)) (ht : t.data.toList = w) (hp : ∀ c ∈ w, 32 ≤ c.toNat ∧ c.toNat ≤ 126) (hr : rightS (⟨2, t, []⟩ : Tm) = true) :
    Item s a f l st (a + (w.flatMap (fun c => esc c 34)).length + 2) (l ++ [⟨2, t, []⟩]) st := by
  obtain ⟨h0, e0, hd1⟩ := drop_get hd; refine ⟨h0, by rw [e0]; decide, ?_⟩; have hq := quoS_esc (q := 34) w (a + 1) [] r hd1 (.inr ⟨rfl, hp⟩)
  have htw : (⟨w.toArray⟩ : ByteArray) = t := by
    refine ByteArray.ext (Array.ext' ?_); rw [ht]
  unfold itemS; rw [e0, if_neg (by decide), if_pos (by decide), hq, List.nil_append]; unfold wordQ; simp only [htw, hr, if_true]; rw [show a + 1 + (w.flatMap (fun c => esc c 34)).length + 1 = a + (w.flatMap (fun c => esc c 34)).length + 2 by omega]; rfl
theorem tok_right {s : ByteArray} {k : Int} {t : ByteArray} {x a : Nat} {f : Int} {l : List Tm} (hr : rightS (⟨k, t, []⟩ : Tm) = true) (hon : onB s a = false) : tokS s k t x a f l = (true, f, l ++ [⟨k, t, []⟩]) := by
  unfold tokS; rw [if_pos hr, if_neg (by rw [hon]; decide)]
theorem white_let (b : UInt8) : clsB 1 b = true → clsB 8 b = false := by revert b; refine byte_all _ ?_; decide +kernel
theorem white_dig (b : UInt8) : clsB 2 b = true → clsB 8 b = false := by revert b; refine byte_all _ ?_; decide +kernel
theorem inn46 (b : UInt8) : isInn b = true → b.toNat ≠ 46 := by revert b; refine byte_all _ ?_; decide +kernel
theorem item_word {s : ByteArray} {a : Nat} {w r : List UInt8} {t : ByteArray} (f : Int) (l : List Tm) (st : List Op) (hd : s.data.toList.drop a = w ++ r) (ht : t.data.toList = w) (hn : nameS 60 w = true) (hst : Stop r) (hr : rightS (⟨2, t, []⟩ : Tm) = true) :
    Item s a f l st (a + w.length) (l ++ [⟨2, t, []⟩]) st := by
  cases w with
  | nil => cases hn
  | cons b w =>
    simp only [nameS, Bool.and_eq_true, decide_eq_true_eq] at hn; obtain ⟨⟨_, hb⟩, hall⟩ := hn; obtain ⟨h0, e0, hd1⟩ := drop_get hd
    have hc1 : clsB 1 (s[a]'h0) = true := by rw [e0, cls_let]; exact hb
    have hm := letter_marks _ hc1; refine ⟨h0, white_let _ hc1, ?_⟩; have hend : endF 4 s a = a + (b :: w).length := endF_word hd (fun c hc => by rw [cls_inn]; exact List.all_eq_true.1 hall c hc) (hst.cls (by decide))
    have hv : ¬ varAt s a = true := by
      unfold varAt
      by_cases h1 : a + 1 < s.size
      · rw [dif_pos h1]
        have : (s[a + 1]'h1).toNat ≠ 46 := by
          cases w with
          | nil =>
            try simp only [List.nil_append] at hd1
            cases r with
            | nil => exact absurd h1 (drop_end hd1)
            | cons c r =>
              obtain ⟨_, e1, _⟩ := drop_get hd1; rw [e1]
              rcases hst c rfl with rfl | rfl | rfl <;> decide
          | cons c w =>
            obtain ⟨_, e1, _⟩ := drop_get hd1; rw [e1]; exact inn46 c (List.all_eq_true.1 hall c (by simp))
        simp [this]
      · rw [dif_neg h1]; decide
    unfold itemS; rw [if_neg hm.1, if_neg hm.2, if_neg hv, if_pos hc1, hend, ext_word hd ht, tok_right hr (hst.on (drop_more hd))]
theorem no_var {s : ByteArray} {a : Nat} (h0 : a < s.size) (h : clsB 1 (s[a]'h0) = false) : ¬ varAt s a = true := by
  unfold varAt
  by_cases h1 : a + 1 < s.size
  · rw [dif_pos h1, idx_letter _ h]; simp
  · rw [dif_neg h1]; decide
theorem item_num {s : ByteArray} {a : Nat} {w r : List UInt8} {t : ByteArray} (f : Int) (l : List Tm) (st : List Op) (hd : s.data.toList.drop a = w ++ r) (ht : t.data.toList = w) (hn : numS w = true) (hst : Stop r) (hr : rightS (⟨3, t, []⟩ : Tm) = true) :
    Item s a f l st (a + w.length) (l ++ [⟨3, t, []⟩]) st := by
  cases w with
  | nil => simp [numS, cutS, coreS] at hn
  | cons b w =>
    obtain ⟨h0, e0, hd1⟩ := drop_get hd
    have hall : ∀ c ∈ w, clsB 2 c = true := by
      simp only [numS, cutS] at hn
      by_cases c : b = 45
      · rw [if_pos c] at hn; simp only [coreS, Bool.and_eq_true] at hn; intro d hd; rw [cls_dig]; exact List.all_eq_true.1 hn.1.2 d hd
      · rw [if_neg c] at hn; simp only [coreS, Bool.and_eq_true] at hn; intro d hd; rw [cls_dig]; exact List.all_eq_true.1 hn.1.2 d (List.mem_cons_of_mem _ hd)
    have hcase : clsB 2 (s[a]'h0) = true ∨ (s[a]'h0).toNat = 45 ∧ clsAt 2 s (a + 1) = true := by
      simp only [numS, cutS] at hn
      by_cases c : b = 45
      · refine .inr ⟨by rw [e0, c]; rfl, ?_⟩; rw [if_pos c] at hn
        cases w with
        | nil => simp [coreS] at hn
        | cons d w =>
          obtain ⟨h1, e1, _⟩ := drop_get hd1; unfold clsAt; rw [dif_pos h1, e1]; exact hall d List.mem_cons_self
      · rw [if_neg c] at hn; simp only [coreS, Bool.and_eq_true] at hn; refine .inl ?_; rw [e0, cls_dig]; exact List.all_eq_true.1 hn.1.2 b List.mem_cons_self
    have hm : (s[a]'h0).toNat ≠ 39 ∧ (s[a]'h0).toNat ≠ 34 ∧ clsB 1 (s[a]'h0) = false ∧ clsB 8 (s[a]'h0) = false := by
      rcases hcase with h | h
      · have := digit_marks _ h; exact ⟨this.1, this.2.1, this.2.2, white_dig _ h⟩
      · have := minus_marks _ h.1; refine ⟨this.1, this.2.1, this.2.2.1, ?_⟩; have h45 : s[a]'h0 = 45 := UInt8.toNat_inj.1 h.1; rw [h45]; decide
    refine ⟨h0, hm.2.2.2, ?_⟩
    have hend : endF 2 s (a + 1) = a + (b :: w).length := by
      rw [endF_word hd1 hall (hst.cls (by decide)), List.length_cons]; omega
    unfold itemS; rw [if_neg hm.1, if_neg hm.2.1, if_neg (no_var h0 hm.2.2.1), if_neg (by rw [hm.2.2.1]; decide), if_pos hcase, hend, ext_word hd ht, tok_right hr (hst.on (drop_more hd))]
theorem item_vari {s : ByteArray} {a : Nat} {v : UInt8} {i : Nat} {w r : List UInt8} {t : ByteArray} (f : Int) (l : List Tm) (st : List Op) (hd : s.data.toList.drop a = v :: 46 :: (w ++ r)) (hv : Lib.indexByte [115, 116, 101] v = (i : Int)) (ht : t.data.toList = w) (hn : varS w = true) (hst : Stop r) (hr : rightS (⟨5 + i, t, []⟩ : Tm) = true) :
    Item s a f l st (a + 2 + w.length) (l ++ [⟨5 + i, t, []⟩]) st := by
  obtain ⟨h0, e0, hd1⟩ := drop_get hd; obtain ⟨h1, e1, hd2⟩ := drop_get hd1
  have hmk : ∀ v : UInt8, 0 ≤ Lib.indexByte [115, 116, 101] v → v.toNat ≠ 39 ∧ v.toNat ≠ 34 ∧ clsB 8 v = false := by
    intro v; revert v; refine byte_all _ ?_; decide +kernel
  have hm := hmk v (by omega); refine ⟨h0, by rw [e0]; exact hm.2.2, ?_⟩
  have hva : varAt s a = true := by
    unfold varAt; rw [dif_pos h1, e0, e1, hv]; have : (46 : UInt8).toNat = 46 := rfl; simp [this]
  have hend : endF 3 s (a + 2) = a + 2 + w.length := by
    simp only [varS, Bool.and_eq_true] at hn; exact endF_word hd2 (fun c hc => by rw [cls_ld]; exact List.all_eq_true.1 hn.2 c hc) (hst.cls (by decide))
  unfold itemS; rw [e0, if_neg hm.1, if_neg hm.2.1, if_pos hva, hv, hend, ext_word hd2 ht, tok_right hr (hst.on (drop_more hd2))]
theorem item_open {s : ByteArray} {a : Nat} {r : List UInt8} (f : Int) (l : List Tm) (st : List Op) (hd : s.data.toList.drop a = 40 :: r) : Item s a f l st (a + 1) [] (⟨l, 4, ⟨#[]⟩⟩ :: st) := by
  obtain ⟨h0, e0, hd1⟩ := drop_get hd; refine ⟨h0, by rw [e0]; decide, ?_⟩; have hnv := no_var h0 (by rw [e0]; decide); unfold itemS; rw [e0, if_neg (by decide), if_neg (by decide), if_neg hnv, if_neg (by decide), if_neg (by rintro (h | h); (· exact absurd h (by decide)); (· exact absurd h.1 (by decide))), if_pos (by decide)]
theorem item_callw {s : ByteArray} {a : Nat} {w r : List UInt8} {t : ByteArray} (f : Int) (l : List Tm) (st : List Op) (hd : s.data.toList.drop a = 60 :: (w ++ r)) (ht : t.data.toList = w) (hn : nameS 40 w = true) (hst : Stop r) : Item s a f l st (a + 1 + w.length) [] (⟨l, 8, t⟩ :: st) := by
  obtain ⟨h0, e0, hd1⟩ := drop_get hd; refine ⟨h0, by rw [e0]; decide, ?_⟩; have hnv := no_var h0 (by rw [e0]; decide)
  have hr : rightS (⟨8, t, []⟩ : Tm) = true := by unfold rightS; simp [ht, hn]
  cases w with
  | nil => cases hn
  | cons b w =>
    simp only [nameS, Bool.and_eq_true, decide_eq_true_eq] at hn; obtain ⟨⟨_, hb⟩, hall⟩ := hn; obtain ⟨h1, e1, hd2⟩ := drop_get hd1
    have hc1 : clsB 1 b = true := by rw [cls_let]; exact hb
    have g1 : endF 8 s (a + 1) = a + 1 := by
      rw [endF_step 8 s (a + 1) h1, e1, if_neg (by rw [white_let b hc1]; decide)]
    have g2 : endF 4 s (a + 1) = a + 1 + (b :: w).length := endF_word hd1 (fun c hc => by rw [cls_inn]; exact List.all_eq_true.1 hall c hc) (hst.cls (by decide))
    have g3 : clsAt 1 s (a + 1) = true := by unfold clsAt; rw [dif_pos h1, e1]; exact hc1
    unfold itemS; rw [e0, if_neg (by decide), if_neg (by decide), if_neg hnv, if_neg (by decide), if_neg (by rintro (h | h); (· exact absurd h (by decide)); (· exact absurd h.1 (by decide))), if_neg (by decide), if_pos (by decide)]; unfold callS; rw [g1, if_pos g3, g2, ext_word hd1 ht, if_pos hr, if_neg (by rw [hst.on (drop_more hd1)]; decide)]
theorem item_shut4 {s : ByteArray} {a : Nat} {r : List UInt8} (f : Int) (l : List Tm) (o : Op) (st : List Op) (hd : s.data.toList.drop a = 41 :: r) (hk : o.kind = 4) : Item s a f l (o :: st) (a + 1) (o.ahead ++ [⟨4, o.text, l⟩]) st := by
  obtain ⟨h0, e0, hd1⟩ := drop_get hd; refine ⟨h0, by rw [e0]; decide, ?_⟩; have hnv := no_var h0 (by rw [e0]; decide); unfold itemS; rw [e0, if_neg (by decide), if_neg (by decide), if_neg hnv, if_neg (by decide), if_neg (by rintro (h | h); (· exact absurd h (by decide)); (· exact absurd h.1 (by decide))), if_neg (by decide), if_neg (by decide), if_pos (by decide)]; simp [endN, hk]
theorem item_shut8 {s : ByteArray} {a : Nat} {r : List UInt8} (f : Int) (l : List Tm) (o : Op) (st : List Op) (hd : s.data.toList.drop a = 62 :: r) (hk : o.kind = 8) : Item s a f l (o :: st) (a + 1) (o.ahead ++ [⟨8, o.text, l⟩]) st := by
  obtain ⟨h0, e0, hd1⟩ := drop_get hd; refine ⟨h0, by rw [e0]; decide, ?_⟩; have hnv := no_var h0 (by rw [e0]; decide); unfold itemS; rw [e0, if_neg (by decide), if_neg (by decide), if_neg hnv, if_neg (by decide), if_neg (by rintro (h | h); (· exact absurd h (by decide)); (· exact absurd h.1 (by decide))), if_neg (by decide), if_neg (by decide), if_neg (by decide), if_pos (by decide)]; simp [endN, hk]
def Goes (s : ByteArray) (f : Int) (a : Nat) (l : List Tm) (st : List Op) (a' : Nat) (l' : List Tm) (st' : List Op) : Prop :=
  ∃ k, k + a ≤ a' ∧ ∀ n, 0 < n → parF s (n + k) a f l st = parF s n a' f l' st'
theorem Goes.refl (s : ByteArray) (f : Int) (a : Nat) (l : List Tm) (st : List Op) : Goes s f a l st a l st := ⟨0, by omega, fun _ _ => rfl⟩
theorem Goes.trans {s : ByteArray} {f : Int} {a b c : Nat} {l1 l2 l3 : List Tm} {s1 s2 s3 : List Op} (h1 : Goes s f a l1 s1 b l2 s2) (h2 : Goes s f b l2 s2 c l3 s3) : Goes s f a l1 s1 c l3 s3 := by
  obtain ⟨k1, e1, g1⟩ := h1; obtain ⟨k2, e2, g2⟩ := h2; exact ⟨k2 + k1, by omega, fun n hn => by rw [← Nat.add_assoc, g1 _ (by omega), g2 n hn]⟩
theorem Item.goes {s : ByteArray} {f : Int} {a a' : Nat} {l l' : List Tm} {st st' : List Op} (h : Item s a f l st a' l' st') : Goes s f a l st a' l' st' := by
  obtain ⟨ha, hw, he⟩ := h
  have g1 : endF 8 s a = a := by rw [endF_step 8 s a ha, if_neg (by rw [hw]; decide)]
  have hi := itemS_ok (s := s) (a := a) (ha := ha) (fault := f) (l := l) (st := st) (by rw [he]); rw [he] at hi; refine ⟨1, by have := hi.2.1; simp only at this; omega, fun n hn => ?_⟩; simp only [parF, g1]; rw [dif_pos ha, he]; simp
theorem goes_space {s : ByteArray} {f : Int} {a : Nat} {l : List Tm} {st : List Op} {r : List UInt8} (hd : s.data.toList.drop a = 32 :: r) : Goes s f a l st (a + 1) l st := by
  obtain ⟨h0, e0, hd1⟩ := drop_get hd
  have g1 : endF 8 s a = endF 8 s (a + 1) := by rw [endF_step 8 s a h0, e0, if_pos (by decide)]
  refine ⟨0, by omega, fun n hn => ?_⟩; obtain ⟨m, rfl⟩ : ∃ m, n = m + 1 := ⟨n - 1, by omega⟩; simp only [Nat.add_zero, parF, g1]
end Go.Proofs.Ytdbjjaodkapikaa.TE
end
section
namespace Go.Proofs.Ytdbjjaodkapikaa.TE
open Go.RowKit Go.Shelf Go.Proofs.YtdbjjaodkapikaaW.PrintWords Go.Proofs.YtdbjjaodkapikaaW.PrintLast Go.Proofs.YtdbjjaodkapikaaW.PrintMore Go.Proofs.Ytdbjjaodkapikaa.Evs
set_option linter.unusedVariables false
set_option linter.unusedSimpArgs false
def chars (ws : List UInt8) : List Tm := ws.map (fun b => (⟨1, ⟨#[b]⟩, []⟩ : Tm))
theorem txT_char (p : Option Int) (last : Bool) (b : UInt8) : txT p last (⟨1, ⟨#[b]⟩, []⟩ : Tm) = (if nextB p 1 = true then [39] else []) ++ (esc b 39 ++ if last = true then [39] else []) := by
  rw [txT_eq]; simp [charL]
theorem run_mid (r : List Tm) (hr : r.head?.map (·.f0) ≠ some 1) : ∀ (ws : List UInt8) (b : UInt8), txl (some 1) (chars (b :: ws) ++ r) = esc b 39 ++ (ws.flatMap (fun c => esc c 39) ++ 39 :: txl (some 1) r)
  | [], b => by
    show txl (some 1) ((⟨1, ⟨#[b]⟩, []⟩ : Tm) :: r) = _; rw [txl_cons, txT_char]; simp [spaceL, nextB, hr]
  | c :: ws, b => by
    have ih := run_mid r hr ws c; show txl (some 1) ((⟨1, ⟨#[b]⟩, []⟩ : Tm) :: (chars (c :: ws) ++ r)) = _; rw [txl_cons, txT_char, ih]; simp [spaceL, nextB, chars]
theorem run_start (r : List Tm) (hr : r.head?.map (·.f0) ≠ some 1) (p : Option Int) (hp : p ≠ some 1) : ∀ (ws : List UInt8) (b : UInt8), txl p (chars (b :: ws) ++ r) = spaceL p 1 ++ 39 :: ((b :: ws).flatMap (fun c => esc c 39) ++ 39 :: txl (some 1) r)
  | [], b => by
    show txl p ((⟨1, ⟨#[b]⟩, []⟩ : Tm) :: r) = _; rw [txl_cons, txT_char]; simp [nextB, hr, hp]
  | c :: ws, b => by
    have ih := run_mid r hr ws c; show txl p ((⟨1, ⟨#[b]⟩, []⟩ : Tm) :: (chars (c :: ws) ++ r)) = _; rw [txl_cons, txT_char, ih]; simp [nextB, hp, chars]
theorem fine_char {x : Tm} (h : fineS 8 x = true) (h1 : x.f0 = 1) : ∃ b, x = ⟨1, ⟨#[b]⟩, []⟩ := by
  obtain ⟨k, t, ks⟩ := x; simp only at h1; subst h1; simp only [fineS, Bool.and_eq_true, rightS] at h; have h2 := h.2
  by_cases hk : 0 < ks.length
  · simp [hk] at h2
  · simp [hk] at h2; have hks : ks = [] := List.eq_nil_of_length_eq_zero (by omega)
    have h3 : t.data.toList.length = 1 := by simpa using h2
    obtain ⟨b, hb⟩ := List.length_eq_one_iff.1 h3; have ht : t = ⟨#[b]⟩ := ByteArray.ext (Array.ext' hb); exact ⟨b, by rw [hks, ht]⟩
theorem take_run : ∀ l : List Tm, (∀ x ∈ l, fineS 8 x = true) → ∃ ws r, l = chars ws ++ r ∧ r.head?.map (·.f0) ≠ some 1
  | [], _ => ⟨[], [], rfl, by simp⟩
  | x :: l, h => by
    by_cases h1 : x.f0 = 1
    · obtain ⟨b, rfl⟩ := fine_char (h x List.mem_cons_self) h1; obtain ⟨ws, r, rfl, hr⟩ := take_run l (fun y hy => h y (List.mem_cons_of_mem _ hy)); exact ⟨b :: ws, r, rfl, hr⟩
    · exact ⟨[], x :: l, rfl, by simpa using h1⟩
theorem goes_sp {s : ByteArray} {f : Int} {a : Nat} {l : List Tm} {st : List Op} {p : Option Int} {k : Int} {r : List UInt8} (hd : s.data.toList.drop a = spaceL p k ++ r) : Goes s f a l st (a + (spaceL p k).length) l st := by
  unfold spaceL at hd ⊢
  split
  · rename_i h; rw [if_pos h] at hd; exact goes_space hd
  · exact Goes.refl _ _ _ _ _
theorem name_bytes (k : Int) (t : ByteArray) (hk : k = 5 ∨ k = 6 ∨ k = 7) : (nameB k t).data.toList = nameL k ++ t.data.toList := by
  unfold nameB; rw [if_pos (by omega)]; rw [ByteArray.data_append]; simp
theorem empty_text {t : ByteArray} (h : t.data.toList = []) : t = ⟨#[]⟩ := ByteArray.ext (Array.ext' h)
theorem mem_flat_cons {x y : Tm} {r : List Tm} (h : y = x ∨ y ∈ flat x.f2 ∨ y ∈ flat r) : y ∈ flat (x :: r) := by
  rw [flat_cons]; simp only [List.mem_cons, List.mem_append]; exact h
theorem top_flat : ∀ (l : List Tm) (x : Tm), x ∈ l → x ∈ flat l
  | y :: l, x, h => by
    rcases List.mem_cons.1 h with rfl | h
    · exact mem_flat_cons (.inl rfl)
    · exact mem_flat_cons (.inr (.inr (top_flat l x h)))
theorem put_range (c : UInt8) : isPut c = true → 32 ≤ c.toNat ∧ c.toNat ≤ 126 := by revert c; refine byte_all _ ?_; decide +kernel
theorem term_goes {s : ByteArray} {f : Int} {x : Tm} (hf : fineS 8 x = true) (h1 : x.f0 ≠ 1) (p : Option Int) (last : Bool) {a : Nat} {r : List UInt8} (l0 : List Tm) (st : List Op) (hd : s.data.toList.drop a = txT p last x ++ r) (hst : Stop r)
    (ih : ∀ (a : Nat) (st : List Op) (b : UInt8) (r : List UInt8), s.data.toList.drop a = txl none x.f2 ++ b :: r → b = 41 ∨ b = 62 → Goes s f a [] st (a + (txl none x.f2).length) x.f2 st) :
    Goes s f a l0 st (a + (txT p last x).length) (l0 ++ [x]) st := by
  have hr : rightS x = true := by simp only [fineS, Bool.and_eq_true] at hf; exact hf.2
  obtain ⟨k, t, ks⟩ := x; simp only at h1 ih; rw [txT_eq] at hd ⊢; simp only [if_neg h1] at hd ⊢
  by_cases h4 : k = 4
  · subst h4; simp only [show (4 : Int) ≠ 2 by decide, show (4 : Int) ≠ 3 by decide, if_false, if_true] at hd ⊢; have ht : t = ⟨#[]⟩ := empty_text (by simpa [rightS] using hr); subst ht; simp only [List.cons_append, List.append_assoc] at hd; have g1 := (item_open f l0 st hd).goes; have hd1 := (drop_get hd).2.2; have g2 := ih (a + 1) (⟨l0, 4, ⟨#[]⟩⟩ :: st) 41 r (by simpa using hd1) (.inl rfl); have hd2 := drop_more hd1; have g3 := (item_shut4 f ks ⟨l0, 4, ⟨#[]⟩⟩ st (by simpa using hd2) rfl).goes; have := (g1.trans g2).trans g3; rw [show a + (40 :: (txl none ks ++ [41])).length = a + 1 + (txl none ks).length + 1 by simp; omega]; exact this
  · by_cases h8 : k = 8
    · subst h8; simp only [show (8 : Int) ≠ 2 by decide, show (8 : Int) ≠ 3 by decide, show (8 : Int) ≠ 4 by decide, if_false, if_true] at hd ⊢
      have hn : nameS 40 t.data.toList = true := by simpa [rightS] using hr
      by_cases hk : 0 < ks.length
      · simp only [if_pos hk] at hd ⊢; simp only [List.cons_append, List.append_assoc, List.nil_append] at hd; have g1 := (item_callw f l0 st hd rfl hn (by intro b hb; simp at hb; exact .inl hb.symm)).goes; have hd1 := drop_more (drop_get hd).2.2; have g2 := goes_space (f := f) (l := []) (st := ⟨l0, 8, t⟩ :: st) hd1; have hd2 := (drop_get hd1).2.2; have g3 := ih _ (⟨l0, 8, t⟩ :: st) 62 r (by simpa using hd2) (.inr rfl); have hd3 := drop_more hd2; have g4 := (item_shut8 f ks ⟨l0, 8, t⟩ st (by simpa using hd3) rfl).goes; have := ((g1.trans g2).trans g3).trans g4; rw [show a + (60 :: (t.data.toList ++ ([32] ++ (txl none ks ++ [62])))).length = a + 1 + t.data.toList.length + 1 + (txl none ks).length + 1 by simp; omega]; exact this
      · have hks : ks = [] := List.eq_nil_of_length_eq_zero (by omega); subst hks; simp only [if_neg hk, txl_nil, List.nil_append] at hd ⊢; simp only [List.cons_append, List.append_assoc, List.nil_append] at hd; have g1 := (item_callw f l0 st hd rfl hn (by intro b hb; simp at hb; exact .inr (.inr hb.symm))).goes; have hd1 := drop_more (drop_get hd).2.2; have g4 := (item_shut8 f [] ⟨l0, 8, t⟩ st hd1 rfl).goes; have := g1.trans g4; rw [show a + (60 :: (t.data.toList ++ [62])).length = a + 1 + t.data.toList.length + 1 by simp; omega]; exact this
    · have hks : ks = [] := by
        simp only [rightS, if_neg h4, if_neg h8] at hr
        by_cases hk : 0 < ks.length
        · rw [if_pos hk] at hr; cases hr
        · exact List.eq_nil_of_length_eq_zero (by omega)
      subst hks
      by_cases h2 : k = 2
      · subst h2; simp only [if_true] at hd ⊢
        have hw : wordS t.data.toList = true := by simpa [rightS] using hr
        unfold wordL at hd ⊢
        by_cases hn : nameS 60 t.data.toList = true
        · rw [if_pos hn] at hd ⊢; exact (item_word f l0 st hd rfl hn hst hr).goes
        · rw [if_neg hn] at hd ⊢; simp only [List.cons_append, List.append_assoc, List.nil_append] at hd; have := (item_quo f l0 st hd rfl (fun c hc => put_range c (by simp only [wordS, Bool.and_eq_true] at hw; exact List.all_eq_true.1 hw.2 c hc)) hr).goes; rw [show a + (34 :: (t.data.toList.flatMap (fun c => esc c 34) ++ [34])).length = a + (t.data.toList.flatMap (fun c => esc c 34)).length + 2 by simp; omega]; exact this
      · by_cases h3 : k = 3
        · subst h3; simp only [show (3 : Int) ≠ 2 by decide, if_false, if_true] at hd ⊢; exact (item_num f l0 st hd rfl (by simpa [rightS] using hr) hst hr).goes
        · have hk : k = 5 ∨ k = 6 ∨ k = 7 := by
            simp only [rightS, if_neg h4, if_neg h8, if_neg h1, if_neg h2, if_neg h3] at hr
            by_cases hk : k = 5 ∨ k = 6 ∨ k = 7
            · exact hk
            · rw [if_neg (by decide), if_neg hk] at hr; cases hr
          have hv : varS t.data.toList = true := by
            simp only [rightS, if_neg h4, if_neg h8, if_neg h1, if_neg h2, if_neg h3] at hr; rw [if_neg (by decide), if_pos hk] at hr; exact hr
          simp only [if_neg h2, if_neg h3, if_neg h4, if_neg h8] at hd ⊢; rw [name_bytes k t hk] at hd ⊢
          rcases hk with rfl | rfl | rfl
          · have := (item_vari (i := 0) f l0 st (v := 115) (w := t.data.toList) (r := r) (by simpa [nameL] using hd) (by decide) rfl hv hst hr).goes; rw [show a + (nameL 5 ++ t.data.toList).length = a + 2 + t.data.toList.length by simp [nameL]; omega]; exact this
          · have := (item_vari (i := 1) f l0 st (v := 116) (w := t.data.toList) (r := r) (by simpa [nameL] using hd) (by decide) rfl hv hst hr).goes; rw [show a + (nameL 6 ++ t.data.toList).length = a + 2 + t.data.toList.length by simp [nameL]; omega]; exact this
          · have := (item_vari (i := 2) f l0 st (v := 101) (w := t.data.toList) (r := r) (by simpa [nameL] using hd) (by decide) rfl hv hst hr).goes; rw [show a + (nameL 7 ++ t.data.toList).length = a + 2 + t.data.toList.length by simp [nameL]; omega]; exact this
theorem list_goes (s : ByteArray) (f : Int) : ∀ (N : Nat) (l : List Tm), bk42s l ≤ N → (∀ x ∈ flat l, fineS 8 x = true) → ∀ (p : Option Int) (a : Nat) (l0 : List Tm) (st : List Op) (rest : List UInt8), s.data.toList.drop a = txl p l ++ rest → (∀ b, rest.head? = some b → b = 41 ∨ b = 62) → (p = some 1 → l.head?.map (·.f0) ≠ some 1) →
    Goes s f a l0 st (a + (txl p l).length) (l0 ++ l) st := by
  intro N
  induction N with
  | zero =>
    intro l hN hf p a l0 st rest hd hr hp; have := bks_len l; have hl : l = [] := List.eq_nil_of_length_eq_zero (by omega); subst hl; rw [txl_nil, List.append_nil]; exact Goes.refl _ _ _ _ _
  | succ N ihN =>
    intro l hN hf p a l0 st rest hd hr hp
    cases l with
    | nil => rw [txl_nil, List.append_nil]; exact Goes.refl _ _ _ _ _
    | cons x r =>
      by_cases h1 : x.f0 = 1
      · have hp1 : p ≠ some 1 := fun h => hp h (by simp [h1])
        obtain ⟨b, rfl⟩ := fine_char (hf x (mem_flat_cons (.inl rfl))) h1; obtain ⟨ws, r2, rfl, hr2⟩ := take_run r (fun y hy => hf y (mem_flat_cons (.inr (.inr (top_flat r y hy))))); have he : ((⟨1, ⟨#[b]⟩, []⟩ : Tm) :: (chars ws ++ r2)) = chars (b :: ws) ++ r2 := rfl; rw [he] at hd hf hN ⊢; rw [run_start r2 hr2 p hp1 ws b] at hd ⊢; simp only [List.append_assoc, List.cons_append] at hd; have g1 := goes_sp (f := f) (l := l0) (st := st) hd; have hd1 := drop_more hd; have g2 := (item_char f l0 st hd1).goes; have hd2 := (drop_get hd1).2.2; have hd3 := drop_more hd2; have hd4 := (drop_get hd3).2.2
        have hbk : bk42s r2 ≤ N := by
          rw [bks_app2] at hN; have : bk42s (chars (b :: ws)) = 5 * (b :: ws).length := bks_chars _; rw [this, List.length_cons] at hN; omega
        have hff : ∀ y ∈ flat r2, fineS 8 y = true := by
          have : ∀ ws : List UInt8, ∀ y ∈ flat r2, y ∈ flat (chars ws ++ r2) := by
            intro ws
            induction ws with
            | nil => intro y hy; exact hy
            | cons c ws ih => intro y hy; exact mem_flat_cons (.inr (.inr (ih y hy)))
          exact fun y hy => hf y (this _ y hy)
        have g3 := ihN r2 hbk hff (some 1) _ (l0 ++ chrL ⟨(b :: ws).toArray⟩) st rest hd4 hr (fun _ => hr2)
        have hpos : a + (spaceL p 1).length + ((b :: ws).flatMap (fun c => esc c 39)).length + 2 = a + (spaceL p 1).length + 1 + ((b :: ws).flatMap (fun c => esc c 39)).length + 1 := by omega
        rw [hpos] at g2; have := (g1.trans g2).trans g3; rw [show a + (spaceL p 1 ++ 39 :: ((b :: ws).flatMap (fun c => esc c 39) ++ 39 :: txl (some 1) r2)).length = a + (spaceL p 1).length + 1 + ((b :: ws).flatMap (fun c => esc c 39)).length + 1 + (txl (some 1) r2).length by simp only [List.length_append, List.length_cons]; omega]; rw [List.append_assoc] at this; exact this
      · rw [txl_cons] at hd ⊢; simp only [List.append_assoc] at hd; have g1 := goes_sp (f := f) (l := l0) (st := st) hd; have hd1 := drop_more hd
        have hxb : bk42s x.f2 ≤ N ∧ bk42s r ≤ N := by
          obtain ⟨k, t, ks⟩ := x; simp only [bk42s, bk42] at hN; simp only
          omega
        have hsto : Stop (txl (some x.f0) r ++ rest) := by
          intro c hc
          cases r with
          | nil => rw [txl_nil, List.nil_append] at hc; exact .inr (hr c hc)
          | cons y r =>
            rw [txl_cons] at hc
            have hsp : spaceL (some x.f0) y.f0 = [32] := by
              unfold spaceL nextB; simp [h1]
            rw [hsp] at hc; simp at hc; exact .inl hc.symm
        have g2 := term_goes (s := s) (f := f) (hf x (mem_flat_cons (.inl rfl))) h1 p _ l0 st hd1 hsto (fun a st b r3 hd hb => by
          have := ihN x.f2 hxb.1 (fun y hy => hf y (mem_flat_cons (.inr (.inl hy)))) none a [] st (b :: r3) hd (fun c hc => by simp at hc; rw [← hc]; exact hb) (fun h => by cases h)
          simpa using this)
        have hd2 := drop_more hd1; have g3 := ihN r hxb.2 (fun y hy => hf y (mem_flat_cons (.inr (.inr hy)))) (some x.f0) _ (l0 ++ [x]) st rest hd2 hr (fun h => absurd (by injection h) h1); have := (g1.trans g2).trans g3; rw [List.append_assoc] at this; simp only [List.length_append, ← Nat.add_assoc]; exact this
theorem parse_text {l : List Tm} (h8 : checkS 8 l = 0) (hlen : (txl none l).length ≤ 40000) : parseS ⟨(txl none l).toArray⟩ = (l, 0, 0) := by
  obtain ⟨s, hs⟩ : ∃ s : ByteArray, s = ⟨(txl none l).toArray⟩ := ⟨_, rfl⟩
  have hsz : s.size = (txl none l).length := by rw [hs]; show Array.size _ = _; simp
  have hfl : ∀ x ∈ flat l, fineS 8 x = true := by
    have hx := h8; unfold checkS at hx
    split at hx
    · cases hx
    · split at hx
      · cases hx
      · split at hx
        · rename_i h; exact fun x hx => List.all_eq_true.1 h x hx
        · cases hx
  have hd : s.data.toList.drop 0 = txl none l ++ [] := by rw [hs]; simp
  obtain ⟨k, hk, hg⟩ := list_goes s (-1) _ l (Nat.le_refl _) hfl none 0 [] [] [] hd (fun b hb => by cases hb) (fun h => by cases h)
  have hend : ∀ n, 0 < n → parF s n (0 + (txl none l).length) (-1) ([] ++ l) [] = (true, -1, l, []) := by
    intro n hn; obtain ⟨m, rfl⟩ : ∃ m, n = m + 1 := ⟨n - 1, by omega⟩
    have he : endF 8 s (0 + (txl none l).length) = s.size := by rw [Nat.zero_add, ← hsz]; exact endF_stop 8 s s.size (by omega)
    simp only [parF, he]; rw [dif_neg (by omega)]; rfl
  have hp : parF s (s.size + 2) 0 (-1) [] [] = (true, -1, l, []) := by
    obtain ⟨n, hn⟩ : ∃ n, s.size + 2 = n + k := ⟨s.size + 2 - k, by omega⟩; rw [hn, hg n (by omega)]; exact hend n (by omega)
  rw [← hs]; unfold parseS; rw [if_neg (by omega), hp, if_pos rfl]; simp [h8]
end Go.Proofs.Ytdbjjaodkapikaa.TE
end
