/- Nodes in memory; what an embedder knows. -/
import Derived.Test.YtjhjhhibbmligaaMTEPq
import Derived.Test.YtjhjhhibbmligaaMTEPi2
import Derived.Test.YtjhjhhibbmligaaMTEParts3
import Derived.Test.YtjhjhhibbmligaaMTEPi7
import Derived.Test.YtjhjhhibbmligaaMTEBa
import Derived.Test.YtjhjhhibbmligaaMTEx1
import Derived.Test.YtjhjhhibbmligaaMTEPa
import Derived.BigQuiet
import Derived.Deep.QuietTactic
import Derived.Deep.LoopGhost
import Derived.Test.YtjhjhhibbmligaaMTEPs3
import Derived.Maps.Own
import Derived.Maps.Views
import Derived.Maps.OwnSet
import Derived.DeepKeys4
section
namespace Go.Proofs.Ytjhjhhibbmligaa.TE
open Go.RowKit Go.Shelf Go.Proofs.YtjhjhhibbmligaaW.PrintWords Go.Proofs.YtjhjhhibbmligaaW.PrintLast Go.Proofs.YtjhjhhibbmligaaW.PrintMore Go.Proofs.Ytjhjhhibbmligaa.Evs
set_option linter.unusedVariables false
set_option linter.unusedSimpArgs false
set_option maxRecDepth 100000 in
set_option maxHeartbeats 4000000 in
theorem PS.item_none {w0 W : World} {g a : Nat} {s : ByteArray} {fault : Int} {l : List Tm} {st : List Op} (h : PS w0 W g s a fault l st) (hs : s.size ≤ 1048576) (b : UInt8)
    (ha : a < s.size) (hc : s[a]'ha = b) (h39 : b.toNat ≠ 39) (h34 : b.toNat ≠ 34) (h40 : b.toNat ≠ 40) (h60 : b.toNat ≠ 60) (h41 : b.toNat ≠ 41) (h62 : b.toNat ≠ 62) (hcl1 : clsB 1 b = false) (hcl2 : clsB 2 b = false) (hm : ¬ (b.toNat = 45 ∧ clsAt 2 s (a + 1) = true)) :
    Calls Try.prog 120 #[.pointer (some ⟨g, 0, none⟩)] W fun e W' => e = .returned (.bool false) ∧ PS w0 W' g s (a : Int) (failF fault a) l st := by
  have hbl : Below W.heap.size W (W.alloc (.cells #[.pointer (some ⟨g, 0, none⟩)] 139)) := (Below.refl _ _).alloc (Nat.le_refl _) _; have hn0 := World.alloc_heap_new W (.cells #[.pointer (some ⟨g, 0, none⟩)] 139); obtain ⟨W0, hW0⟩ : ∃ W0, W.alloc (.cells #[.pointer (some ⟨g, 0, none⟩)] 139) = W0 := ⟨_, rfl⟩; have HW0 := Aside0.mk hW0; rw [hW0] at hbl hn0; have x0 : W0.cell? ⟨W.heap.size, 0, none⟩ = some (.pointer (some ⟨g, 0, none⟩)) := (q4 hn0 0).trans rfl; have hp0 : PM W.heap.size w0 W0 g s a fault l st := h.pm.newer hbl; obtain ⟨p0, p1, p2, pf1⟩ := hp0.cells
  have hfo := fun n => followed.calls W.heap.size g a s 2 (W0.drewN n) x0 p0 p1 hs ha
  have HFO := Aside0.mk hfo; clear hfo; have ha0 : (0 : Int) ≤ (a : Int) := Int.natCast_nonneg _
  have ha1 : (a : Int) < (s.size : Int) := by omega
  have hbt : ((s[a]'ha).toNat : Int) = (b.toNat : Int) := by rw [hc]
  have e39 : ((b.toNat : Int) == 39) = false := by simp; omega
  have e34 : ((b.toNat : Int) == 34) = false := by simp; omega
  have e40 : ((b.toNat : Int) == 40) = false := by simp; omega
  have e60 : ((b.toNat : Int) == 60) = false := by simp; omega
  have e41 : ((b.toNat : Int) == 41) = false := by simp; omega
  have e62 : ((b.toNat : Int) == 62) = false := by simp; omega
  have HIS := Aside0.mk (is_at b.toNat b rfl 1 false hcl1); have HIS2 := Aside0.mk (is_at b.toNat b rfl 2 false hcl2); have HIDX := Aside0.mk (index_at (b.toNat : Int) (-1) (by simpa using idx_letter b hcl1)); have HP0 := Aside0.mk hp0; clear h hp0 hbl hW0 hn0 hs hc h39 h34 h40 h60 h41 h62 hcl1 hcl2
  by_cases h45 : b.toNat = 45
  · have e45 : ((b.toNat : Int) == 45) = true := by simp; omega
    have hf2 : clsAt 2 s (a + 1) = false := by
      cases hx : clsAt 2 s (a + 1) with
      | false => rfl
      | true => exact absurd ⟨h45, hx⟩ hm
    have hf3 := HFO.out; rw [hf2] at hf3; have HFF := Aside0.mk hf3; clear h45 hf3 hf2 hm
    go_enter Try.func120, Try.ntmps120
    go_wp2_with fail
    rw [HW0.out]
    go_quiet (fail)
    generalize nq = nq1
    go_wp2_with fail
    go_quiet (first | (go_at_call 160; exact quiet_of2 (HIDX.out _)))
    go_wp2_with (first
      | (go_at_call 156; refine (HIS.out _).mono ?_; rintro e w' ⟨rfl, nd, rfl⟩)
      | (go_at_call 156; refine (HIS2.out _).mono ?_; rintro e w' ⟨rfl, nd2, rfl⟩)
      | (go_at_call 157; refine (HFF.out _).mono ?_; rintro e w' ⟨rfl, nd3, rfl⟩)
      | fail)
    refine (HP0.out.drewN.ps.fail (a : Int)).mono ?_; rintro e w5 ⟨rfl, hp, _⟩; have HP6 := Aside0.mk hp; clear hp
    go_wp2_with fail
    go_ret; exact ⟨rfl, HP6.out⟩
  · have e45 : ((b.toNat : Int) == 45) = false := by simp; omega
    clear h45 hm
    go_enter Try.func120, Try.ntmps120
    go_wp2_with fail
    rw [HW0.out]
    go_quiet (fail)
    generalize nq = nq1
    go_wp2_with fail
    go_quiet (first | (go_at_call 160; exact quiet_of2 (HIDX.out _)))
    go_wp2_with (first
      | (go_at_call 156; refine (HIS.out _).mono ?_; rintro e w' ⟨rfl, nd, rfl⟩)
      | (go_at_call 156; refine (HIS2.out _).mono ?_; rintro e w' ⟨rfl, nd2, rfl⟩)
      | fail)
    refine (HP0.out.drewN.ps.fail (a : Int)).mono ?_; rintro e w5 ⟨rfl, hp, _⟩; have HP6 := Aside0.mk hp; clear hp
    go_wp2_with fail
    go_ret; exact ⟨rfl, HP6.out⟩
def endN (k : Int) (a : Nat) (fault : Int) (l : List Tm) : List Op → Bool × Nat × Int × List Tm × List Op
  | [] => (false, a, failF fault a, l, [])
  | o :: r => if o.kind = k then (true, a + 1, fault, o.ahead ++ [⟨o.kind, o.text, l⟩], r) else (false, a, failF fault a, l, o :: r)
theorem endN_eq (k : Int) (a : Nat) (fault : Int) (l : List Tm) (st : List Op) : endS k (a : Int) fault l st = ((endN k a fault l st).1, ((endN k a fault l st).2.1 : Int), (endN k a fault l st).2.2) := by
  cases st with
  | nil => rfl
  | cons o r =>
    by_cases h : o.kind = k
    · simp [endS, endN, h]
    · simp [endS, endN, h]
def itemS (s : ByteArray) (a : Nat) (ha : a < s.size) (fault : Int) (l : List Tm) (st : List Op) : Bool × Nat × Int × List Tm × List Op :=
  if (s[a]'ha).toNat = 39 then ((quoS s (s[a]'ha) (a + 1) []).1, (quoS s (s[a]'ha) (a + 1) []).2.1, failO fault (quoS s (s[a]'ha) (a + 1) []).2.2.1, l ++ chrL ⟨(quoS s (s[a]'ha) (a + 1) []).2.2.2.toArray⟩, st)
  else if (s[a]'ha).toNat = 34 then ((wordQ l a fault (quoS s (s[a]'ha) (a + 1) [])).1, (quoS s (s[a]'ha) (a + 1) []).2.1, (wordQ l a fault (quoS s (s[a]'ha) (a + 1) [])).2.1, (wordQ l a fault (quoS s (s[a]'ha) (a + 1) [])).2.2, st)
  else if varAt s a = true then ((tokS s (5 + Lib.indexByte [115, 116, 101] (s[a]'ha)) (s.extract (a + 2) (endF 3 s (a + 2))) a (endF 3 s (a + 2)) fault l).1, endF 3 s (a + 2), (tokS s (5 + Lib.indexByte [115, 116, 101] (s[a]'ha)) (s.extract (a + 2) (endF 3 s (a + 2))) a (endF 3 s (a + 2)) fault l).2.1, (tokS s (5 + Lib.indexByte [115, 116, 101] (s[a]'ha)) (s.extract (a + 2) (endF 3 s (a + 2))) a (endF 3 s (a + 2)) fault l).2.2, st)
  else if clsB 1 (s[a]'ha) = true then ((tokS s 2 (s.extract a (endF 4 s a)) a (endF 4 s a) fault l).1, endF 4 s a, (tokS s 2 (s.extract a (endF 4 s a)) a (endF 4 s a) fault l).2.1, (tokS s 2 (s.extract a (endF 4 s a)) a (endF 4 s a) fault l).2.2, st)
  else if clsB 2 (s[a]'ha) = true ∨ (s[a]'ha).toNat = 45 ∧ clsAt 2 s (a + 1) = true then ((tokS s 3 (s.extract a (endF 2 s (a + 1))) a (endF 2 s (a + 1)) fault l).1, endF 2 s (a + 1), (tokS s 3 (s.extract a (endF 2 s (a + 1))) a (endF 2 s (a + 1)) fault l).2.1, (tokS s 3 (s.extract a (endF 2 s (a + 1))) a (endF 2 s (a + 1)) fault l).2.2, st)
  else if (s[a]'ha).toNat = 40 then (true, a + 1, fault, [], ⟨l, 4, ⟨#[]⟩⟩ :: st)
  else if (s[a]'ha).toNat = 60 then callS s a fault l st
  else if (s[a]'ha).toNat = 41 then endN 4 a fault l st
  else if (s[a]'ha).toNat = 62 then endN 8 a fault l st
  else (false, a, failF fault a, l, st)
theorem PS.item {w0 W : World} {g a : Nat} {s : ByteArray} {fault : Int} {l : List Tm} {st : List Op} (h : PS w0 W g s a fault l st) (hs : s.size ≤ 1048576) (ha : a < s.size) (hl : l.length ≤ 1048576) (hst : st.length ≤ 1048576) (hal : ∀ o ∈ st, o.ahead.length ≤ 1048576) :
    Calls Try.prog 120 #[.pointer (some ⟨g, 0, none⟩)] W fun e W' => e = .returned (.bool (itemS s a ha fault l st).1) ∧ PS w0 W' g s ((itemS s a ha fault l st).2.1 : Nat) (itemS s a ha fault l st).2.2.1 (itemS s a ha fault l st).2.2.2.1 (itemS s a ha fault l st).2.2.2.2 := by
  have hl' : l.length ≤ 1099511627776 := by omega
  have hst' : st.length ≤ 1099511627776 := by omega
  have hal' : ∀ o ∈ st, o.ahead.length ≤ 1099511627776 := fun o ho => Nat.le_trans (hal o ho) (by decide)
  by_cases h39 : (s[a]'ha).toNat = 39
  · have e : itemS s a ha fault l st = ((quoS s (s[a]'ha) (a + 1) []).1, (quoS s (s[a]'ha) (a + 1) []).2.1, failO fault (quoS s (s[a]'ha) (a + 1) []).2.2.1, l ++ chrL ⟨(quoS s (s[a]'ha) (a + 1) []).2.2.2.toArray⟩, st) := by unfold itemS; rw [if_pos h39]
    rw [e]; exact h.item_chars hs hl ha h39 _ rfl
  by_cases h34 : (s[a]'ha).toNat = 34
  · have e : itemS s a ha fault l st = ((wordQ l a fault (quoS s (s[a]'ha) (a + 1) [])).1, (quoS s (s[a]'ha) (a + 1) []).2.1, (wordQ l a fault (quoS s (s[a]'ha) (a + 1) [])).2.1, (wordQ l a fault (quoS s (s[a]'ha) (a + 1) [])).2.2, st) := by unfold itemS; rw [if_neg h39, if_pos h34]
    rw [e]; exact h.item_quoted hs hl ha h34 _ rfl
  by_cases hv : varAt s a = true
  · have e := hv; unfold varAt at hv
    by_cases h1 : a + 1 < s.size
    · rw [dif_pos h1] at hv; simp only [Bool.and_eq_true, decide_eq_true_eq] at hv
      rcases idx_cases (s[a]'ha) with hi | ⟨i, hi3, hi⟩
      · omega
      · have e2 : itemS s a ha fault l st = ((tokS s (5 + i) (s.extract (a + 2) (endF 3 s (a + 2))) a (endF 3 s (a + 2)) fault l).1, endF 3 s (a + 2), (tokS s (5 + i) (s.extract (a + 2) (endF 3 s (a + 2))) a (endF 3 s (a + 2)) fault l).2.1, (tokS s (5 + i) (s.extract (a + 2) (endF 3 s (a + 2))) a (endF 3 s (a + 2)) fault l).2.2, st) := by unfold itemS; rw [if_neg h39, if_neg h34, if_pos e, hi]
        rw [e2]; exact h.item_var hs hl' (s[a]'ha) i h1 rfl hv.2 h39 h34 hi hi3 _ rfl
    · rw [dif_neg h1] at hv; cases hv
  by_cases h1 : clsB 1 (s[a]'ha) = true
  · have e : itemS s a ha fault l st = ((tokS s 2 (s.extract a (endF 4 s a)) a (endF 4 s a) fault l).1, endF 4 s a, (tokS s 2 (s.extract a (endF 4 s a)) a (endF 4 s a) fault l).2.1, (tokS s 2 (s.extract a (endF 4 s a)) a (endF 4 s a) fault l).2.2, st) := by unfold itemS; rw [if_neg h39, if_neg h34, if_neg hv, if_pos h1]
    rw [e]; exact h.item_word hs hl' (s[a]'ha) ha rfl (by simpa using hv) h1 _ rfl
  by_cases h2 : clsB 2 (s[a]'ha) = true ∨ (s[a]'ha).toNat = 45 ∧ clsAt 2 s (a + 1) = true
  · have e : itemS s a ha fault l st = ((tokS s 3 (s.extract a (endF 2 s (a + 1))) a (endF 2 s (a + 1)) fault l).1, endF 2 s (a + 1), (tokS s 3 (s.extract a (endF 2 s (a + 1))) a (endF 2 s (a + 1)) fault l).2.1, (tokS s 3 (s.extract a (endF 2 s (a + 1))) a (endF 2 s (a + 1)) fault l).2.2, st) := by unfold itemS; rw [if_neg h39, if_neg h34, if_neg hv, if_neg h1, if_pos h2]
    rw [e]; exact h.item_number hs hl' (s[a]'ha) ha rfl h2 _ rfl
  by_cases h40 : (s[a]'ha).toNat = 40
  · have e : itemS s a ha fault l st = (true, a + 1, fault, [], ⟨l, 4, ⟨#[]⟩⟩ :: st) := by unfold itemS; rw [if_neg h39, if_neg h34, if_neg hv, if_neg h1, if_neg h2, if_pos h40]
    rw [e]; exact h.item_open hs ha hst' h40
  by_cases h60 : (s[a]'ha).toNat = 60
  · have e : itemS s a ha fault l st = callS s a fault l st := by unfold itemS; rw [if_neg h39, if_neg h34, if_neg hv, if_neg h1, if_neg h2, if_neg h40, if_pos h60]
    rw [e]; exact h.item_call hs ha hst' h60
  by_cases h41 : (s[a]'ha).toNat = 41
  · have e : itemS s a ha fault l st = endN 4 a fault l st := by unfold itemS; rw [if_neg h39, if_neg h34, if_neg hv, if_neg h1, if_neg h2, if_neg h40, if_neg h60, if_pos h41]
    have := h.item_shut hs ha hst' hal' h41; rw [endN_eq] at this; rw [e]; exact this
  by_cases h62 : (s[a]'ha).toNat = 62
  · have e : itemS s a ha fault l st = endN 8 a fault l st := by unfold itemS; rw [if_neg h39, if_neg h34, if_neg hv, if_neg h1, if_neg h2, if_neg h40, if_neg h60, if_neg h41, if_pos h62]
    have := h.item_done hs ha hst' hal' h62; rw [endN_eq] at this; rw [e]; exact this
  have e : itemS s a ha fault l st = (false, a, failF fault a, l, st) := by unfold itemS; rw [if_neg h39, if_neg h34, if_neg hv, if_neg h1, if_neg h2, if_neg h40, if_neg h60, if_neg h41, if_neg h62]
  rw [e]; exact h.item_none hs (s[a]'ha) ha rfl h39 h34 h40 h60 h41 h62 (by simpa using h1) (by cases hx : clsB 2 (s[a]'ha) with | false => rfl | true => exact absurd (.inl hx) h2) (fun hx => h2 (.inr hx))
end Go.Proofs.Ytjhjhhibbmligaa.TE
end
section
namespace Go.Proofs.Ytjhjhhibbmligaa.TE
open Go.RowKit Go.Shelf Go.Proofs.YtjhjhhibbmligaaW.PrintWords Go.Proofs.YtjhjhhibbmligaaW.PrintLast Go.Proofs.YtjhjhhibbmligaaW.PrintMore Go.Proofs.Ytjhjhhibbmligaa.Evs
set_option linter.unusedVariables false
set_option linter.unusedSimpArgs false
theorem bks_app2 : ∀ a b : List Tm, bk42s (a ++ b) = bk42s a + bk42s b
  | [], b => by simp [bk42s]
  | x :: r, b => by have := bks_app2 r b; simp only [List.cons_append, bk42s, this]; omega
theorem bks_len : ∀ l : List Tm, l.length ≤ bk42s l
  | [] => Nat.zero_le _
  | ⟨k, t, ks⟩ :: r => by have := bks_len r; simp only [List.length_cons, bk42s, bk42]; omega
theorem bks_chars : ∀ out : List UInt8, bk42s (out.map (fun b => (⟨1, ⟨#[b]⟩, []⟩ : Tm))) = 5 * out.length
  | [] => rfl
  | b :: r => by
    have := bks_chars r; have h1 : (⟨#[b]⟩ : ByteArray).size = 1 := rfl; simp only [List.map_cons, bk42s, bk42, this, List.length_cons, h1]; omega
theorem bks_chr (out : List UInt8) : bk42s (chrL ⟨out.toArray⟩) = 5 * out.length := bks_chars out
theorem ext_size (s : ByteArray) (a b : Nat) : (s.extract a b).size ≤ b - a := by
  have h := size_len (s.extract a b); rw [extract_list, List.length_take] at h
  omega
def AOk (n a : Nat) (acc : List UInt8) : QR → Prop
  | .done ok at_ _ out => ok = true → out.length + a + 1 ≤ acc.length + at_ ∧ at_ ≤ n
  | .more _ _ => True
theorem quoR_aok (s : ByteArray) (q : UInt8) (a : Nat) (acc : List UInt8) : AOk s.size a acc (quoR s q a acc) := by
  unfold quoR
  have no : ∀ x y z, AOk s.size a acc (.done false x y z) := fun x y z h => by cases h
  refine dite_okQ (fun h => ?_) (fun h => no _ _ _); refine ite_okQ (fun _ => ⟨by omega, h⟩) (ite_okQ (no _ _ _) (ite_okQ trivial (dite_okQ (fun h1 => ?_) (fun _ => no _ _ _)))); refine ite_okQ trivial (ite_okQ trivial (ite_okQ trivial (ite_okQ (dite_okQ (fun h3 => ?_) (fun _ => no _ _ _)) (no _ _ _)))); exact ite_okQ (no _ _ _) trivial
theorem quoS_adv (s : ByteArray) (q : UInt8) : ∀ (n a : Nat) (acc : List UInt8), s.size - a ≤ n → (quoS s q a acc).1 = true → (quoS s q a acc).2.2.2.length + a + 1 ≤ acc.length + (quoS s q a acc).2.1 ∧ (quoS s q a acc).2.1 ≤ s.size := by
  intro n
  induction n with
  | zero =>
    intro a acc hn; have hd := quoR_aok s q a acc; rw [quoS]
    split
    · rename_i h'; rw [h'] at hd; exact hd
    · rename_i h'; have := quoR_lt h'; omega
  | succ n ih =>
    intro a acc hn; have hd := quoR_aok s q a acc; rw [quoS]
    split
    · rename_i h'; rw [h'] at hd; exact hd
    · rename_i a' acc' h'; have h1 := quoR_lt h'; have := ih a' acc' (by omega); intro ht; have := this ht; omega
def stTot : List Op → Nat
  | [] => 0
  | o :: r => bk42s o.ahead + o.text.size + 4 + stTot r
theorem stTot_len : ∀ st : List Op, st.length ≤ stTot st
  | [] => Nat.zero_le _
  | o :: r => by have := stTot_len r; simp only [List.length_cons, stTot]; omega
theorem stTot_ahead : ∀ (st : List Op) (o : Op), o ∈ st → o.ahead.length ≤ stTot st
  | p :: r, o, h => by
    rcases List.mem_cons.1 h with rfl | h
    · have := bks_len o.ahead; simp only [stTot]; omega
    · have := stTot_ahead r o h; simp only [stTot]; omega
theorem tokS_ok {s : ByteArray} {k : Int} {tx : ByteArray} {x a : Nat} {fault : Int} {l : List Tm} (h : (tokS s k tx x a fault l).1 = true) : (tokS s k tx x a fault l).2.2 = l ++ [⟨k, tx, []⟩] ∧ (tokS s k tx x a fault l).2.1 = fault := by
  unfold tokS at h ⊢
  split at h
  · rename_i h1
    split at h
    · cases h
    · rename_i h2; rw [if_pos h1, if_neg h2]; exact ⟨rfl, rfl⟩
  · cases h
theorem itemS_ok {s : ByteArray} {a : Nat} {ha : a < s.size} {fault : Int} {l : List Tm} {st : List Op} (h : (itemS s a ha fault l st).1 = true) :
    bk42s (itemS s a ha fault l st).2.2.2.1 + stTot (itemS s a ha fault l st).2.2.2.2 + 5 * a ≤ bk42s l + stTot st + 5 * (itemS s a ha fault l st).2.1 ∧ a < (itemS s a ha fault l st).2.1 ∧ (itemS s a ha fault l st).2.1 ≤ s.size := by
  unfold itemS at h ⊢
  split at h
  · rename_i c1
    rw [if_pos c1]; have hq := quoS_adv s (s[a]'ha) _ (a + 1) [] (Nat.le_refl _) h; simp only [bks_app2, bks_chr]; simp only [List.length_nil] at hq
    omega
  · rename_i c1
    rw [if_neg c1]
    split at h
    · rename_i c2
      rw [if_pos c2]; unfold wordQ at h ⊢; simp only at h ⊢
      split at h
      · rename_i c3
        rw [if_pos c3]
        split at h
        · rename_i c4
          rw [if_pos c4]; have hq := quoS_adv s (s[a]'ha) _ (a + 1) [] (Nat.le_refl _) c3; simp only [List.length_nil] at hq
          have hz : (⟨(quoS s (s[a]'ha) (a + 1) []).2.2.2.toArray⟩ : ByteArray).size = (quoS s (s[a]'ha) (a + 1) []).2.2.2.length := by show Array.size _ = _; simp
          simp only [bks_app2, bk42s, bk42, hz]
          omega
        · cases h
      · cases h
    · rename_i c2
      rw [if_neg c2]
      split at h
      · rename_i c3
        rw [if_pos c3]
        have hx : a + 1 < s.size := by
          unfold varAt at c3
          by_cases h1 : a + 1 < s.size
          · exact h1
          · rw [dif_neg h1] at c3; cases c3
        have ht := (tokS_ok h).1; have he := ext_size s (a + 2) (endF 3 s (a + 2)); have g1 := endF_ge 3 s (a + 2); have g2 := endF_le 3 s (a + 2) (by omega); simp only [ht, bks_app2, bk42s, bk42]
        omega
      · rename_i c3
        rw [if_neg c3]
        split at h
        · rename_i c4
          rw [if_pos c4]; have ht := (tokS_ok h).1; have he := ext_size s a (endF 4 s a)
          have g0 : a < endF 4 s a := by
            have hcl : ∀ b : UInt8, clsB 1 b = true → clsB 4 b = true := by
              intro b; revert b; refine byte_all _ ?_; decide +kernel
            have := endF_step 4 s a ha; rw [if_pos (hcl _ c4)] at this; have := endF_ge 4 s (a + 1)
            omega
          have g2 := endF_le 4 s a (by omega); simp only [ht, bks_app2, bk42s, bk42]
          omega
        · rename_i c4
          rw [if_neg c4]
          split at h
          · rename_i c5
            rw [if_pos c5]; have ht := (tokS_ok h).1; have he := ext_size s a (endF 2 s (a + 1)); have g1 := endF_ge 2 s (a + 1); have g2 := endF_le 2 s (a + 1) (by omega); simp only [ht, bks_app2, bk42s, bk42]
            omega
          · rename_i c5
            rw [if_neg c5]
            split at h
            · rename_i c6
              rw [if_pos c6]; have : (⟨#[]⟩ : ByteArray).size = 0 := rfl; simp only [stTot, bk42s, this]
              omega
            · rename_i c6
              rw [if_neg c6]
              split at h
              · rename_i c7
                rw [if_pos c7]; unfold callS at h ⊢
                split at h
                · rename_i c8
                  rw [if_pos c8]
                  split at h
                  · rename_i c9
                    rw [if_pos c9]
                    split at h
                    · cases h
                    · rename_i c10
                      rw [if_neg c10]; have g1 := endF_ge 8 s (a + 1); have g2 := endF_le 8 s (a + 1) (by omega); have g3 := endF_ge 4 s (endF 8 s (a + 1)); have g4 := endF_le 4 s (endF 8 s (a + 1)) g2; have he := ext_size s (endF 8 s (a + 1)) (endF 4 s (endF 8 s (a + 1))); simp only [stTot, bk42s]
                      omega
                  · cases h
                · cases h
              · rename_i c7
                rw [if_neg c7]
                have hend : ∀ k, (endN k a fault l st).1 = true → bk42s (endN k a fault l st).2.2.2.1 + stTot (endN k a fault l st).2.2.2.2 + 5 * a ≤ bk42s l + stTot st + 5 * (endN k a fault l st).2.1 ∧ a < (endN k a fault l st).2.1 ∧ (endN k a fault l st).2.1 ≤ s.size := by
                  intro k hk
                  cases st with
                  | nil => cases hk
                  | cons o r =>
                    by_cases c : o.kind = k
                    · simp only [endN, if_pos c, bks_app2, bk42s, bk42, stTot]
                      omega
                    · simp only [endN, if_neg c] at hk; cases hk
                split at h
                · rename_i c8
                  rw [if_pos c8]; exact hend 4 h
                · rename_i c8
                  rw [if_neg c8]
                  split at h
                  · rename_i c9
                    rw [if_pos c9]; exact hend 8 h
                  · cases h
def parF (s : ByteArray) : Nat → Nat → Int → List Tm → List Op → Bool × Int × List Tm × List Op
  | 0, _, fault, l, st => (false, fault, l, st)
  | n + 1, a, fault, l, st =>
    if h : endF 8 s a < s.size then
      (if (itemS s (endF 8 s a) h fault l st).1 = true then parF s n (itemS s (endF 8 s a) h fault l st).2.1 (itemS s (endF 8 s a) h fault l st).2.2.1 (itemS s (endF 8 s a) h fault l st).2.2.2.1 (itemS s (endF 8 s a) h fault l st).2.2.2.2
       else (false, (itemS s (endF 8 s a) h fault l st).2.2.1, [], []))
    else (true, fault, l, st)
def parseS (s : ByteArray) : List Tm × Int × Int :=
  if 40000 < s.size then ([], 0, 7)
  else if (parF s (s.size + 2) 0 (-1) [] []).1 = true then
    (if (parF s (s.size + 2) 0 (-1) [] []).2.2.2.length = 0 then
      (if checkS 8 (parF s (s.size + 2) 0 (-1) [] []).2.2.1 = 0 then ((parF s (s.size + 2) 0 (-1) [] []).2.2.1, 0, 0) else ([], 0, checkS 8 (parF s (s.size + 2) 0 (-1) [] []).2.2.1))
     else ([], (s.size : Int), 3))
  else ([], (parF s (s.size + 2) 0 (-1) [] []).2.1, 3)
end Go.Proofs.Ytjhjhhibbmligaa.TE
end
section
namespace Go.Proofs.Ytjhjhhibbmligaa.TE
open Go.RowKit Go.Shelf Go.Proofs.YtjhjhhibbmligaaW.PrintWords Go.Proofs.YtjhjhhibbmligaaW.PrintLast Go.Proofs.YtjhjhhibbmligaaW.PrintMore Go.Proofs.Ytjhjhhibbmligaa.Evs
set_option linter.unusedVariables false
set_option linter.unusedSimpArgs false
theorem PS.begin0 {W W0 : World} {s : ByteArray} (hn0 : W0.heap[W.heap.size]? = some (.cells #[.string s, .int .i64 0, .int .i64 (-1), .slice none 0 0, .slice none 0 0] 142 (0, 0))) (hb0 : Below W.heap.size W W0) : PS W W0 W.heap.size s ((0 : Nat) : Int) (-1) [] [] :=
  ⟨hb0, Nat.le_refl _, .slice none 0 0, .slice none 0 0, [], rfl, hn0, World.ownsRow_nil _ _ _ _, fun _ => False, fun _ h => h.elim, TR.nil _ _ _, trivial⟩
theorem PS.ends {w0 W : World} {g : Nat} {s : ByteArray} {a fault : Int} {l : List Tm} {st : List Op} (h : PS w0 W g s a fault l st) : ∃ A c As cs, W.cell? ⟨g, 3, none⟩ = some (.slice A l.length c) ∧ W.cell? ⟨g, 4, none⟩ = some (.slice As st.length cs) ∧ l.length ≤ c ∧ Kd.C k42 W A l.length l := by
  obtain ⟨vl, vs, avs, h1, h2, h3, ok, o1, o2, o3⟩ := h.mem; replace o2 : TR W w0.heap.size ok vl l := o2; obtain ⟨As, cs, rfl⟩ := own_formN h3; obtain ⟨A, c, rfl, hc⟩ := o2.slice; obtain ⟨_, _, hF⟩ := o2.foot; exact ⟨A, c, As, cs, h2.cells.2.2.2.1, h2.cells.2.2.2.2, hc, hF W (fun _ _ _ => rfl)⟩
set_option maxRecDepth 100000 in
set_option maxHeartbeats 4000000 in
theorem Parse.calls (s : ByteArray) (W : World) : Calls Try.prog 51 #[.string s] W fun e W' => ∃ A c, e = .returned (.tuple #[.slice A (parseS s).1.length c, .int .i64 (parseS s).2.1, .int .i64 (parseS s).2.2]) ∧ (parseS s).1.length ≤ c ∧ Kd.C k42 W' A (parseS s).1.length (parseS s).1 ∧ Below W.heap.size W W' := by
  by_cases h4 : 40000 < s.size
  · have e1 : decide ((40000 : Int) < (s.size : Int)) = true := decide_eq_true (by omega); have HD : Aside0 (parseS s = ([], 0, 7)) := ⟨by unfold parseS; rw [if_pos h4]⟩; clear h4
    go_enter Try.func51, Try.ntmps51
    go_wp2_with fail
    go_step3
    go_wp2_with fail
    (try rw [Exit.noGoto_ret])
    go_ret3
    rw [HD.out]; exact ⟨none, 0, rfl, Nat.le_refl _, Kd.C_nil _ _, Below.refl _ _⟩
  · have e1 : decide ((40000 : Int) < (s.size : Int)) = false := decide_eq_false (by omega); obtain ⟨P, hP⟩ : ∃ P, P = parF s (s.size + 2) 0 (-1) [] [] := ⟨_, rfl⟩; have HD : Aside0 (parseS s = if P.1 = true then (if P.2.2.2.length = 0 then (if checkS 8 P.2.2.1 = 0 then (P.2.2.1, 0, 0) else ([], 0, checkS 8 P.2.2.1)) else ([], (s.size : Int), 3)) else ([], P.2.1, 3)) := ⟨by unfold parseS; rw [if_neg h4, ← hP]⟩; have HP := Aside0.mk hP
    have hs : s.size ≤ 40000 := by omega
    have HS := Aside0.mk hs; clear hP h4 hs
    go_enter Try.func51, Try.ntmps51
    go_wp2_with fail
    go_step3
    go_wp2_with fail
    go_step3
    go_wp2_with fail
    have hn0 := World.alloc_heap_new W (.cells #[.string s, .int .i64 0, .int .i64 (-1), .slice none 0 0, .slice none 0 0] 142); have hb0 : Below W.heap.size W (W.alloc (.cells #[.string s, .int .i64 0, .int .i64 (-1), .slice none 0 0, .slice none 0 0] 142)) := (Below.refl _ _).alloc (Nat.le_refl _) _; obtain ⟨W0, hW0⟩ : ∃ W0, W.alloc (.cells #[.string s, .int .i64 0, .int .i64 (-1), .slice none 0 0, .slice none 0 0] 142) = W0 := ⟨_, rfl⟩; rw [hW0] at hn0 hb0 ⊢; have HPS0 := Aside0.mk (PS.begin0 hn0 hb0); obtain ⟨g, hg⟩ : ∃ g, g = W.heap.size := ⟨_, rfl⟩; rw [← hg] at HPS0 ⊢; clear hn0 hb0 hW0 hg
    go_loopg [] (s.size + 2) (fun gk wr_ => ∃ (a : Nat) (fault : Int) (l : List Tm) (st : List Op), a ≤ s.size ∧ s.size - a + 1 < gk ∧ Aside0 (bk42s l + stTot st ≤ 5 * a) ∧ Aside0 (P = parF s gk a fault l st) ∧ Aside0 (PS W wr_ g s a fault l st))
    case atStart => exact ⟨0, -1, [], [], by omega, by omega, ⟨by simp [bk42s, stTot]⟩, HP, HPS0⟩
    case round =>
      clear HP HPS0; obtain ⟨a, fault, l, st, has, hgk, HT, HP, HPS⟩ := hrel; obtain ⟨g', rfl⟩ : ∃ g', gk = g' + 1 := ⟨gk - 1, by omega⟩; have HAS := Aside0.mk has; have HGK := Aside0.mk hgk; clear has hgk
      go_wp2_with fail
      refine (HPS.out.longest 8 (by have := HS.out; omega) HAS.out).mono ?_; rintro e w1 ⟨rfl, hp, _⟩; obtain ⟨a0, h0⟩ : ∃ a0, a0 = endF 8 s a := ⟨_, rfl⟩; rw [← h0] at hp; have H0 := Aside0.mk h0
      have hge : a ≤ a0 := by rw [h0]; exact endF_ge 8 s a
      have hle : a0 ≤ s.size := by rw [h0]; exact endF_le 8 s a HAS.out
      have HGE := Aside0.mk hge; have HLE := Aside0.mk hle; have HP1 := Aside0.mk hp; obtain ⟨c0, c1, c2, _⟩ := hp.cells; clear h0 hp hge HPS
      by_cases hlt : a0 < s.size
      · have e2 : ((a0 : Int) == (s.size : Int)) = false := by simp; omega
        obtain ⟨R, hR⟩ : ∃ R, R = itemS s a0 hlt fault l st := ⟨_, rfl⟩; have HPR : Aside0 (P = if R.1 = true then parF s g' R.2.1 R.2.2.1 R.2.2.2.1 R.2.2.2.2 else (false, R.2.2.1, [], [])) := ⟨by rw [HP.out, hR]; have h0 := H0.out; subst h0; simp only [parF]; rw [dif_pos hlt]⟩; have hi := itemS_ok (s := s) (a := a0) (ha := hlt) (fault := fault) (l := l) (st := st); rw [← hR] at hi; have HI := Aside0.mk hi; have hsz := HS.out; have ht := HT.out; have hge := HGE.out; have hl1 := bks_len l; have hl2 := stTot_len st; have hcall := HP1.out.item (by omega) hlt (by omega) (by omega) (fun o ho => by have := stTot_ahead st o ho; omega); rw [← hR] at hcall; have HCALL := Aside0.mk hcall; clear hcall hi hsz ht hge hl1 hl2 hR; obtain ⟨b, hb⟩ : ∃ b, b = R.1 := ⟨_, rfl⟩; rw [← hb] at HCALL; have HB := Aside0.mk hb; clear hb
        go_wp2_with fail
        refine HCALL.out.mono ?_; rintro e w2 ⟨rfl, hp⟩; obtain ⟨d0, d1, d2, _⟩ := hp.cells; have HP2 := Aside0.mk hp; clear hp HCALL c0 c1 c2
        cases b with
        | true =>
          have HX := HI.out HB.out.symm; have HXX := Aside0.mk HX; clear HX
          go_wp2_with fail
          go_roundg g'
          case measure => have := HXX.out; have := HGK.out; have := HGE.out; omega
          case rel => exact ⟨R.2.1, R.2.2.1, R.2.2.2.1, R.2.2.2.2, HXX.out.2.2, by have := HXX.out; have := HGK.out; have := HGE.out; omega, ⟨by have := HXX.out; have := HT.out; have := HGE.out; omega⟩, ⟨by rw [HPR.out, if_pos HB.out.symm]⟩, HP2⟩
        | false =>
          have HDD : Aside0 (parseS s = ([], R.2.2.1, 3)) := ⟨by have hp0 : P = (false, R.2.2.1, [], []) := (by rw [HPR.out, ← HB.out, if_neg (by decide)]); rw [HD.out, hp0]; simp⟩
          go_wp2_with fail
          go_quiet (fail)
          go_wp2_with fail
          (try rw [Exit.noGoto_ret])
          go_ret3
          rw [HDD.out]; exact ⟨none, 0, rfl, Nat.le_refl _, Kd.C_nil _ _, HP2.out.drewN.below⟩
      · have hae : a0 = s.size := by omega
        have e2 : ((a0 : Int) == (s.size : Int)) = true := by simp; omega
        have HPR : Aside0 (P = (true, fault, l, st)) := ⟨by rw [HP.out]; simp only [parF]; rw [dif_neg (by rw [← H0.out]; exact hlt)]⟩; obtain ⟨A, c, As, cs, c3, c4, hlc, hC⟩ := HP1.out.ends; have HLC := Aside0.mk hlc; have HC := Aside0.mk hC; clear hlc hC hae hlt hle
        by_cases hst : st.length = 0
        · have e3 : decide ((0 : Int) < (st.length : Int)) = false := decide_eq_false (by omega); have e3' : decide (0 < st.length) = false := decide_eq_false (by omega)
          have hbk : bk42s l ≤ 1099511627776 := by have := HT.out; have := HAS.out; have := HS.out; omega
          obtain ⟨kk, hkk⟩ := (Result_ev hbk).get; have HKK := Aside0.mk hkk; obtain ⟨r, hr⟩ : ∃ r, r = checkS 8 l := ⟨_, rfl⟩; rw [← hr] at HKK; have HD2 : Aside0 (parseS s = if r = 0 then (l, 0, 0) else ([], 0, r)) := ⟨by rw [HD.out, HPR.out, hr]; simp [hst]⟩; clear hkk hr hbk hst
          go_wp2_with fail
          refine (term_Result.calls kk A c l r w1 HC.out HLC.out HKK.out).mono ?_; rintro e w2 ⟨rfl, hb2⟩; have c3' := pw_cell_below hb2 c3; have HC2 := Aside0.mk (Kd.C_below HC.out hb2); have HB2 := Aside0.mk (q12 HP1.out.below hb2); clear hb2 c3 c4 c0 c1 c2
          by_cases hr0 : r = 0
          · have HD3 : Aside0 (parseS s = (l, 0, 0)) := ⟨by rw [HD2.out, if_pos hr0]⟩
            have e4 : (r != 0) = false := by simp [hr0]
            clear hr0
            go_wp2_with fail
            (try rw [Exit.noGoto_ret])
            go_ret3
            rw [HD3.out]; exact ⟨A, c, rfl, HLC.out, HC2.out, HB2.out⟩
          · have HD3 : Aside0 (parseS s = ([], 0, r)) := ⟨by rw [HD2.out, if_neg hr0]⟩
            have e4 : (r != 0) = true := by simp [hr0]
            clear hr0
            go_wp2_with fail
            (try rw [Exit.noGoto_ret])
            go_ret3
            rw [HD3.out]; exact ⟨none, 0, rfl, Nat.le_refl _, Kd.C_nil _ _, HB2.out⟩
        · have e3 : decide ((0 : Int) < (st.length : Int)) = true := decide_eq_true (by omega); have e3' : decide (0 < st.length) = true := decide_eq_true (by omega); have HD2 : Aside0 (parseS s = ([], (s.size : Int), 3)) := ⟨by rw [HD.out, HPR.out]; simp [hst]⟩; clear hst
          go_wp2_with fail
          (try rw [Exit.noGoto_ret])
          go_ret3
          rw [HD2.out]; exact ⟨none, 0, rfl, Nat.le_refl _, Kd.C_nil _ _, HP1.out.below⟩
end Go.Proofs.Ytjhjhhibbmligaa.TE
end
section
namespace Go.Proofs.Ytjhjhhibbmligaa.TE
open Go.RowKit Go.Shelf Go.Proofs.YtjhjhhibbmligaaW.PrintWords Go.Proofs.YtjhjhhibbmligaaW.PrintLast Go.Proofs.YtjhjhhibbmligaaW.PrintMore
set_option linter.unusedVariables false
set_option linter.unusedSimpArgs false
def clsN (k : Int) (t : ByteArray) : ByteArray := if k = 8 then t else ⟨#[]⟩
def sameC (t u : Tm) : Bool := decide (t.f0 = u.f0) && decide ((clsN t.f0 t.f1).data.toList = (clsN u.f0 u.f1).data.toList)
mutual
def cpl (t u : Tm) : Bool := sameC t u && embL t.f2 u.f2
termination_by (SizeOf.sizeOf t + SizeOf.sizeOf u, 0)
decreasing_by all_goals (cases t; cases u; exact Prod.Lex.left _ _ (by simp; omega))
def emb (t u : Tm) : Bool := cpl t u || embA t u.f2
termination_by (SizeOf.sizeOf t + SizeOf.sizeOf u, 1)
decreasing_by
  · exact Prod.Lex.right _ (by decide)
  · cases u; exact Prod.Lex.left _ _ (by simp; omega)
def embA (t : Tm) (us : List Tm) : Bool :=
  match us with
  | [] => false
  | u :: r => emb t u || embA t r
termination_by (SizeOf.sizeOf t + SizeOf.sizeOf us, 2)
decreasing_by all_goals exact Prod.Lex.left _ _ (by simp; omega)
def embL (ts us : List Tm) : Bool :=
  match ts, us with
  | [], _ => true
  | _ :: _, [] => false
  | t :: ts', u :: us' => if emb t u = true then embL ts' us' else embL (t :: ts') us'
termination_by (SizeOf.sizeOf ts + SizeOf.sizeOf us, 2)
decreasing_by all_goals exact Prod.Lex.left _ _ (by simp; omega)
end
def atP (t : Tm) (us : List Tm) (k : Nat) : Nat := if h : k < us.length then (if emb t us[k] = true then k else atP t us (k + 1)) else k
termination_by us.length - k
theorem atP_ge (t : Tm) (us : List Tm) : ∀ k, k ≤ atP t us k := by
  intro k
  induction h : us.length - k generalizing k with
  | zero => rw [atP]; split <;> (try split) <;> omega
  | succ n ih =>
    rw [atP]
    split
    · split
      · exact Nat.le_refl _
      · exact Nat.le_trans (Nat.le_succ _) (ih (k + 1) (by omega))
    · exact Nat.le_refl _
def plc (us : List Tm) : List Tm → Nat → Nat → List (Int × Int)
  | [], _, _ => []
  | t :: r, i, k => if atP t us k < us.length then ((i : Int), (atP t us k : Int)) :: plc us r (i + 1) (atP t us k + 1) else []
theorem embL_nil (ts : List Tm) : embL ts [] = decide (ts.length = 0) := by cases ts <;> simp [embL]
theorem plc_all (us : List Tm) : ∀ (ts : List Tm) (i k : Nat), decide ((plc us ts i k).length = ts.length) = embL ts (us.drop k) := by
  intro ts
  induction ts with
  | nil => intro i k; simp [plc, embL]
  | cons t r ih =>
    intro i k
    induction h : us.length - k generalizing k with
    | zero =>
      rw [List.drop_of_length_le (by omega), embL_nil, plc, if_neg (by rw [atP, dif_neg (by omega)]; omega)]; simp
    | succ n ihk =>
      have hk : k < us.length := by omega
      rw [List.drop_eq_getElem_cons hk, embL]
      by_cases he : emb t us[k] = true
      · rw [if_pos he, ← ih (i + 1) (k + 1), plc]
        have ha : atP t us k = k := by rw [atP, dif_pos hk, if_pos he]
        rw [ha, if_pos hk]; simp
      · rw [if_neg he, ← ihk (k + 1) (by omega), plc, plc]
        have ha : atP t us k = atP t us (k + 1) := by rw [atP, dif_pos hk, if_neg he]
        rw [ha]
end Go.Proofs.Ytjhjhhibbmligaa.TE
end
section
namespace Go.Proofs.Ytjhjhhibbmligaa.TE
open Go.RowKit Go.Shelf Go.Proofs.YtjhjhhibbmligaaW.PrintWords Go.Proofs.YtjhjhhibbmligaaW.PrintLast Go.Proofs.YtjhjhhibbmligaaW.PrintMore Go.Proofs.Ytjhjhhibbmligaa.Evs
set_option linter.unusedVariables false
set_option linter.unusedSimpArgs false
def bl (l : List ByteArray) : List (List UInt8) := l.map (·.data.toList)
def eqB (l m : List ByteArray) : Bool := decide (bl l = bl m)
theorem eqB_cons (x y : ByteArray) (l m : List ByteArray) : eqB (x :: l) (y :: m) = (decide (x.data.toList = y.data.toList) && eqB l m) := by
  unfold eqB bl; rw [List.map_cons, List.map_cons, Bool.eq_iff_iff]; simp
theorem Equal_l0 (l m : List ByteArray) (hlm : l.length = m.length) (hb : l.length ≤ 1099511627776) : ∀ (d i : Nat), l.length - i = d → i ≤ l.length → Evt (fun k => slices_Equal_string_string.l0 k l m (l.length : Int) (i : Int)) (eqB (l.drop i) (m.drop i)) := by
  intro d
  induction d with
  | zero =>
    intro i hd hi
    obtain rfl : i = l.length := by omega
    refine Evt.succ ?_
    have c1 : ¬ (l.length : Int) < (l.length : Int) := by omega
    simp only [slices_Equal_string_string.l0, if_neg c1]; refine (Evt.const _).eq ?_; rw [List.drop_length, List.drop_of_length_le (by omega)]; rfl
  | succ d ih =>
    intro i hd hi
    have hl : i < l.length := by omega
    have hm : i < m.length := by omega
    refine Evt.succ ?_; simp only [slices_Equal_string_string.l0]
    have h1 : rdOf ByteArray.empty l (i : Int) = l[i] := by simp [rdOf, List.getD_eq_getElem?_getD, List.getElem?_eq_getElem hl]
    have h2 : rdOf ByteArray.empty m (i : Int) = m[i] := by simp [rdOf, List.getD_eq_getElem?_getD, List.getElem?_eq_getElem hm]
    have c1 : (i : Int) < (l.length : Int) := by omega
    have c2 : (0 : Int) ≤ (i : Int) := by omega
    have c3 : (i : Int) < (m.length : Int) := by omega
    simp only [if_pos c1, if_pos c2, if_pos c3, h1, h2]; have hd1 : l.drop i = l[i] :: l.drop (i + 1) := List.drop_eq_getElem_cons hl; have hd2 : m.drop i = m[i] :: m.drop (i + 1) := List.drop_eq_getElem_cons hm
    by_cases he : l[i].toList = m[i].toList
    · simp only [if_pos he]
      have hw : wrap64 ((i : Int) + 1) = ((i + 1 : Nat) : Int) := by rw [wrap64_id (by omega) (by omega)]; omega
      simp only [hw]; refine (ih (i + 1) (by omega) (by omega)).eq ?_; rw [hd1, hd2, eqB_cons]; rw [toList_data, toList_data] at he; rw [decide_eq_true he]; rfl
    · simp only [if_neg he]; refine (Evt.const _).eq ?_; rw [hd1, hd2, eqB_cons]; rw [toList_data, toList_data] at he; rw [decide_eq_false he]; rfl
theorem Equal_ev (l m : List ByteArray) (hb : l.length ≤ 1099511627776) : Evt (fun k => slices_Equal_string_string.f k l m) (eqB l m) := by
  unfold slices_Equal_string_string.f
  by_cases h : (l.length : Int) = (m.length : Int)
  · simp only [if_pos h]; have := Equal_l0 l m (by omega) hb l.length 0 (by omega) (by omega); rw [List.drop_zero, List.drop_zero] at this; exact this
  · simp only [if_neg h]; refine (Evt.const _).eq ?_
    symm
    refine decide_eq_false (fun e => h ?_); have := congrArg List.length e; unfold bl at this; rw [List.length_map, List.length_map] at this
    omega
theorem Equal.any {A0 A1 : Option Addr} {c0 c1 : Nat} {l m : List ByteArray} {w : World} (h0 : Kd.C Kd.string w A0 l.length l) (hc0 : l.length ≤ c0) (h1 : Kd.C Kd.string w A1 m.length m) (hc1 : m.length ≤ c1) (hb : l.length ≤ 1099511627776) :
    Calls Try.prog 19 #[.slice A0 l.length c0, .slice A1 m.length c1] w fun e w' => e = .returned (.bool (eqB l m)) ∧ ∃ n, w' = w.drewN n := by
  obtain ⟨k, hk⟩ := (Equal_ev l m hb).get; refine (slices_Equal_string_string.calls k A0 c0 l A1 c1 m _ w h0 hc0 h1 hc1 hk).mono ?_; rintro e w' ⟨rfl, hd⟩; exact ⟨rfl, hd.out⟩
theorem strC {w W' : World} (h : W'.heap = w.heap) {A : Option Addr} {n : Nat} {l : List ByteArray} (hC : Kd.C Kd.string w A n l) : Kd.C Kd.string W' A n l := Kd.C_F Kd.heap_string hC W' (fun k _ _ => by rw [h])
theorem drewn_on {w wr : World} (h : ∃ n, wr = w.drewN n) (m : Nat) : ∃ n, wr.drewN m = w.drewN n := by obtain ⟨n, rfl⟩ := h; exact ⟨n + m, by rw [World.drewN_drewN]⟩
def pfx (a b : List ByteArray) : Nat → Int × Bool
  | 0 => (0, false)
  | k + 1 => if eqB (a.take k) (b.take k) = true ∧ eqB (a.drop k) (b.drop (b.length - a.length + k)) = true then ((k : Int), true) else pfx a b k
def prefixS (a b : List ByteArray) : Int × Bool := if b.length < a.length then (0, false) else pfx a b a.length
set_option maxRecDepth 100000 in
set_option maxHeartbeats 4000000 in
theorem Prefix.calls (A0 A1 : Option Addr) (c0 c1 : Nat) (a b : List ByteArray) (w : World) (h0 : Kd.C Kd.string w A0 a.length a) (hc0 : a.length ≤ c0) (h1 : Kd.C Kd.string w A1 b.length b) (hc1 : b.length ≤ c1) (hb : b.length ≤ 1048576) :
    Calls Try.prog 17 #[.slice A0 a.length c0, .slice A1 b.length c1] w fun e w' => e = .returned (.tuple #[.int .i64 (prefixS a b).1, .bool (prefixS a b).2]) ∧ ∃ n, w' = w.drewN n := by
  by_cases hlt : b.length < a.length
  · have e1 : decide ((b.length : Int) < (a.length : Int)) = true := by simp; omega
    have e2 : decide (b.length < a.length) = true := by simp; omega
    have hd : prefixS a b = (0, false) := if_pos hlt; rw [hd]; clear hd h0 h1
    go_enter Try.func17, Try.ntmps17
    go_wp2
    go_ret2
    exact ⟨rfl, 0, rfl⟩
  · have e1 : decide ((b.length : Int) < (a.length : Int)) = false := by simp; omega
    have e2 : decide (b.length < a.length) = false := by simp; omega
    have hd : prefixS a b = pfx a b a.length := if_neg hlt; rw [hd]; have H0 := Aside0.mk h0; have H1 := Aside0.mk h1
    have hab : a.length ≤ b.length := by omega
    clear hd h0 h1 hlt
    go_enter Try.func17, Try.ntmps17
    go_wp2
    go_loopw [6] (fun i wr => ∃ k : Nat, i = .int .i64 ((k : Int) - 1) ∧ k ≤ a.length ∧ Aside0 (pfx a b a.length = pfx a b k) ∧ Aside0 (∃ n, wr = w.drewN n)) (fun i wr => ((intOf i) + 1).toNat)
    case atStart => exact ⟨a.length, rfl, Nat.le_refl _, ⟨rfl⟩, ⟨0, rfl⟩⟩
    case round =>
      obtain ⟨k, rfl, hk, HP, HD⟩ := hrel
      cases k with
      | zero =>
        have e3 : ((0 : Nat) : Int) - 1 = -1 := rfl; rw [e3]
        go_wp2
        go_ret2
        rw [HP.out]; exact ⟨rfl, HD.out⟩
      | succ j =>
        have e3 : ((j + 1 : Nat) : Int) - 1 = (j : Int) := by omega
        rw [e3]; clear e3; have hj0 : (0 : Int) ≤ (j : Int) := Int.natCast_nonneg _
        have hj1 : (j : Int) ≤ (a.length : Int) := by omega
        have hj2 : (j : Int) ≤ (c0 : Int) := by omega
        have hjb : (j : Int) ≤ 1048576 := by omega
        have hj3 : (j : Int) ≤ (c1 : Int) := by omega
        obtain ⟨d, hdd⟩ : ∃ d : Nat, d = b.length - a.length := ⟨_, rfl⟩; obtain ⟨q, hq'⟩ : ∃ q : Nat, q = d + j := ⟨_, rfl⟩
        have hq : q = b.length - a.length + j := by rw [hq', hdd]
        have hw1 : IntKind.i64.wrap ((b.length : Int) - (a.length : Int)) = (d : Int) := by rw [IntWalk.i64_in _ (by omega)]; omega
        have hw2 : IntKind.i64.wrap ((d : Int) + (j : Int)) = (q : Int) := by rw [IntWalk.i64_in _ (by omega)]; omega
        have hq0 : (0 : Int) ≤ (q : Int) := Int.natCast_nonneg _
        have hq1 : (q : Int) ≤ (b.length : Int) := by omega
        obtain ⟨ad0, hA0, _⟩ := H0.out.2.2 (by omega); obtain ⟨ad1, hA1, _⟩ := H1.out.2.2 (by omega); subst hA0; subst hA1
        have hn0 : ¬ c0 = j := by omega
        have hn1 : ¬ c1 = q := by omega
        have g1 : Aside0 (∀ W', W'.heap = wr.heap → Calls Try.prog 19 #[.slice (some ad0) j c0, .slice (some ad1) j c1] W' fun e w' => e = .returned (.bool (eqB (a.take j) (b.take j))) ∧ ∃ n', w' = W'.drewN n') := ⟨fun W' hW' => by
          have hW : W'.heap = w.heap := by rw [hW']; obtain ⟨n, hn⟩ := HD.out; rw [hn]; rfl
          have l1 : (a.take j).length = j := by rw [List.length_take]; omega
          have l2 : (b.take j).length = j := by rw [List.length_take]; omega
          have := Equal.any (c0 := c0) (c1 := c1) (strC hW (Kd.C_take H0.out (m := j) (by omega))) (by omega) (strC hW (Kd.C_take H1.out (m := j) (by omega))) (by omega) (by omega); rw [l1, l2] at this
          exact this⟩
        have g2 : Aside0 (∀ W', W'.heap = wr.heap → Calls Try.prog 19 #[.slice (some (ad0.add j)) (a.length - j) (c0 - j), .slice (some (ad1.add q)) (b.length - q) (c1 - q)] W' fun e w' => e = .returned (.bool (eqB (a.drop j) (b.drop q))) ∧ ∃ n', w' = W'.drewN n') := ⟨fun W' hW' => by
          have hW : W'.heap = w.heap := by rw [hW']; obtain ⟨n, hn⟩ := HD.out; rw [hn]; rfl
          have l1 : (a.drop j).length = a.length - j := List.length_drop; have l2 : (b.drop q).length = b.length - q := List.length_drop; have d1 := Kd.C_drop H0.out (m := j) (c := c0) (by omega) hc0; have d2 := Kd.C_drop H1.out (m := q) (c := c1) (by omega) hc1; have hs : Kd.string.sz = 1 := rfl; rw [if_neg hn0, Option.map_some, hs, Nat.mul_one] at d1; rw [if_neg hn1, Option.map_some, hs, Nat.mul_one] at d2; have := Equal.any (c0 := c0 - j) (c1 := c1 - q) (strC hW d1) (by omega) (strC hW d2) (by omega) (by omega); rw [l1, l2] at this
          exact this⟩
        obtain ⟨r1, hr1⟩ : ∃ r1, r1 = eqB (a.take j) (b.take j) := ⟨_, rfl⟩; obtain ⟨r2, hr2⟩ : ∃ r2, r2 = eqB (a.drop j) (b.drop q) := ⟨_, rfl⟩; rw [← hr1] at g1; rw [← hr2] at g2
        have hp : pfx a b (j + 1) = if r1 = true ∧ r2 = true then ((j : Int), true) else pfx a b j := by rw [pfx, hr1, hr2, hq]
        have HPJ := Aside0.mk hp; have HAB := Aside0.mk (And.intro hab (And.intro hk (And.intro hc0 (And.intro hc1 hb)))); clear hr1 hr2 hp hq hq' hdd hab hk hc0 hc1 hb e2
        cases r1 with
        | true =>
          go_wp2
          go_quiet (first | (go_at_call 19; (with_reducible refine Calls.quiet_of (g1.out _ ?_)); exact rfl) | (go_at_call 19; (with_reducible refine Calls.quiet_of (g2.out _ ?_)); exact rfl))
          cases r2 with
          | true =>
            have HPJ2 : Aside0 (pfx a b (j + 1) = ((j : Int), true)) := ⟨by rw [HPJ.out]; rfl⟩
            go_wp2
            go_ret2
            rw [HP.out, HPJ2.out]; exact ⟨rfl, drewn_on HD.out nq⟩
          | false =>
            have HPJ2 : Aside0 (pfx a b (j + 1) = pfx a b j) := ⟨by rw [HPJ.out]; rfl⟩
            go_wp2
            go_roundw
            case rel => exact ⟨j, rfl, by have := HAB.out; omega, ⟨by rw [HP.out, HPJ2.out]⟩, ⟨drewn_on HD.out nq⟩⟩
            case measure => simp [intOf]
        | false =>
          have HPJ2 : Aside0 (pfx a b (j + 1) = pfx a b j) := ⟨by rw [HPJ.out]; rfl⟩
          go_wp2
          go_quiet (first | (go_at_call 19; (with_reducible refine Calls.quiet_of (g1.out _ ?_)); exact rfl) | (go_at_call 19; (with_reducible refine Calls.quiet_of (g2.out _ ?_)); exact rfl))
          go_wp2
          go_roundw
          case rel => exact ⟨j, rfl, by have := HAB.out; omega, ⟨by rw [HP.out, HPJ2.out]⟩, ⟨drewn_on HD.out nq⟩⟩
          case measure => simp [intOf]
end Go.Proofs.Ytjhjhhibbmligaa.TE
end
section
namespace Go.Proofs.Ytjhjhhibbmligaa.TE
open Go.RowKit Go.Shelf Go.Proofs.YtjhjhhibbmligaaW.PrintWords Go.Proofs.YtjhjhhibbmligaaW.PrintLast Go.Proofs.YtjhjhhibbmligaaW.PrintMore Go.Proofs.Ytjhjhhibbmligaa.Evs
set_option linter.unusedVariables false
def ex1 : ByteArray := ⟨#[39, 97, 39, 32, 101, 46, 49]⟩
def ex2 : ByteArray := ⟨#[39, 98, 39, 32, 40, 39, 99, 39, 41, 32, 101, 46, 50]⟩
def ea : List Tm := [⟨1, ⟨#[97]⟩, []⟩, ⟨7, ⟨#[49]⟩, []⟩]
def eb : List Tm := [⟨1, ⟨#[98]⟩, []⟩, ⟨4, ⟨#[]⟩, [⟨1, ⟨#[99]⟩, []⟩]⟩, ⟨7, ⟨#[50]⟩, []⟩]
theorem parse_ex1 : parseS ex1 = (ea, 0, 0) := by kernel_rfl
theorem parse_ex2 : parseS ex2 = (eb, 0, 0) := by kernel_rfl
theorem emb_ex1 : embL ea eb = true := by unfold ea eb; simp [embL, emb, cpl, embA, sameC, clsN]
theorem emb_ex2 : embL eb ea = false := by unfold ea eb; simp [embL, emb, cpl, embA, sameC, clsN]
def pa1 : List ByteArray := [⟨#[70]⟩, ⟨#[71]⟩]
def pb1 : List ByteArray := [⟨#[70]⟩, ⟨#[72]⟩, ⟨#[71]⟩]
theorem prefix_ex : prefixS pa1 pb1 = (1, true) := by kernel_rfl
end Go.Proofs.Ytjhjhhibbmligaa.TE
end
section
namespace Go.Proofs.Ytjhjhhibbmligaa.TE
open Go.RowKit Go.Shelf Go.Proofs.YtjhjhhibbmligaaW.PrintWords Go.Proofs.YtjhjhhibbmligaaW.PrintLast Go.Proofs.YtjhjhhibbmligaaW.PrintMore Go.Proofs.Ytjhjhhibbmligaa.Evs
set_option linter.unusedVariables false
set_option linter.unusedSimpArgs false
inductive Nd (w : World) (ok : Nat → Prop) : Value → Tm → Nat → List Int → Prop
  | mk (b num : Nat) (t : Tm) (path : List Int) (pv kv : Value) (vs : List Value) (hb : ok b)
      (hh : w.heap[b]? = some (.cells #[.int .i64 num, .int .i64 t.f0, .string (clsN t.f0 t.f1), pv, kv] 105 (0, 0)))
      (hp : w.ownsRow 0 3 1 pv path.length (path.map (Value.int .i64 ·))) (hpo : ∀ k, pv.ownBlock = some k → ok k)
      (hk : w.ownsRow 0 100 1 kv t.f2.length vs) (hko : ∀ k, kv.ownBlock = some k → ok k)
      (hs : ∀ i (h : i < t.f2.length), Nd w ok (vs.getD i (.bool false)) t.f2[i] (num + 1 + (flat (t.f2.take i)).length) (path ++ [(i : Int)])) : Nd w ok (.pointer (some ⟨b, 0, none⟩)) t num path
def NdL (w : World) (ok : Nat → Prop) (vs : List Value) (l : List Tm) (num : Nat) (path : List Int) : Prop :=
  ∀ i (h : i < l.length), Nd w ok (vs.getD i (.bool false)) l[i] (num + (flat (l.take i)).length) (path ++ [(i : Int)])
theorem Nd.at {w : World} {ok : Nat → Prop} {v : Value} {t : Tm} {num : Nat} {path : List Int} (h : Nd w ok v t num path) :
    ∃ b pv kv vs, v = .pointer (some ⟨b, 0, none⟩) ∧ ok b ∧ w.heap[b]? = some (.cells #[.int .i64 num, .int .i64 t.f0, .string (clsN t.f0 t.f1), pv, kv] 105 (0, 0)) ∧
      w.ownsRow 0 3 1 pv path.length (path.map (Value.int .i64 ·)) ∧ (∀ k, pv.ownBlock = some k → ok k) ∧ w.ownsRow 0 100 1 kv t.f2.length vs ∧ (∀ k, kv.ownBlock = some k → ok k) ∧ NdL w ok vs t.f2 (num + 1) path := by
  cases h with
  | mk b num t path pv kv vs hb hh hp hpo hk hko hs => exact ⟨b, pv, kv, vs, rfl, hb, hh, hp, hpo, hk, hko, hs⟩
theorem Nd.keep {w w' : World} {ok ok' : Nat → Prop} {v : Value} {t : Tm} {num : Nat} {path : List Int} (h : Nd w ok v t num path) (hk : ∀ k, ok k → k < w.heap.size → w'.heap[k]? = w.heap[k]?) (ho : ∀ k, ok k → k < w.heap.size → ok' k) : Nd w' ok' v t num path := by
  induction h with
  | mk b num t path pv kv vs hb hh hp hpo hkk hko hs ih =>
    refine .mk b num t path pv kv vs (ho b hb (Array.getElem?_eq_some_iff.1 hh).1) ((hk b hb (Array.getElem?_eq_some_iff.1 hh).1).trans hh) (own_same hp (fun k e => hk k (hpo k e) (own_ltA hp k e).1)) (fun k e => ho k (hpo k e) (own_ltA hp k e).1)
      (own_same hkk (fun k e => hk k (hko k e) (own_ltA hkk k e).1)) (fun k e => ho k (hko k e) (own_ltA hkk k e).1) (fun i h => ih i h)
theorem NdL.keep {w w' : World} {ok ok' : Nat → Prop} {vs : List Value} {l : List Tm} {num : Nat} {path : List Int} (h : NdL w ok vs l num path) (hk : ∀ k, ok k → k < w.heap.size → w'.heap[k]? = w.heap[k]?) (ho : ∀ k, ok k → k < w.heap.size → ok' k) : NdL w' ok' vs l num path :=
  fun i hi => (h i hi).keep hk ho
theorem NdL.nil (w : World) (ok : Nat → Prop) (vs : List Value) (num : Nat) (path : List Int) : NdL w ok vs [] num path := fun i hi => absurd hi (Nat.not_lt_zero _)
theorem NdL.snoc {w : World} {ok : Nat → Prop} {vs : List Value} {l : List Tm} {num : Nat} {path : List Int} {v : Value} {t : Tm} (h : NdL w ok vs l num path) (hl : vs.length = l.length) (hv : Nd w ok v t (num + (flat l).length) (path ++ [(l.length : Int)])) : NdL w ok (vs ++ [v]) (l ++ [t]) num path := by
  intro i hi; rw [List.length_append, List.length_singleton] at hi
  by_cases hlt : i < l.length
  · have := h i hlt; rw [List.getD_eq_getElem?_getD, List.getElem?_append_left (by omega), ← List.getD_eq_getElem?_getD, List.getElem_append_left hlt, List.take_append_of_le_length (by omega)]; exact this
  · obtain rfl : i = l.length := by omega
    rw [List.getD_eq_getElem?_getD, List.getElem?_append_right (by omega), hl, List.getElem_append_right (by omega)]
    simpa using hv
def SubL (T : Nat → Tm) (N i : Nat) (l : List Tm) : Prop := ∀ q (h : q < (flat l).length), i + q < N ∧ T (i + q) = (flat l)[q]
def SubT (T : Nat → Tm) (N i : Nat) (t : Tm) : Prop := i < N ∧ T i = t ∧ SubL T N (i + 1) t.f2
theorem SubL.get {T : Nat → Tm} {N i : Nat} {l : List Tm} (h : SubL T N i l) (a : Nat) (ha : a < l.length) : SubT T N (i + (flat (l.take a)).length) l[a] := by
  have e : flat l = flat (l.take a) ++ (l[a] :: (flat l[a].f2 ++ flat (l.drop (a + 1)))) := by
    conv => lhs; rw [← List.take_append_drop a l, flat_append, List.drop_eq_getElem_cons ha, flat_cons]
  have hl : (flat l).length = (flat (l.take a)).length + (1 + ((flat l[a].f2).length + (flat (l.drop (a + 1))).length)) := by rw [e]; simp; omega
  have h0 := h (flat (l.take a)).length (by omega); refine ⟨h0.1, ?_, fun q hq => ?_⟩
  · rw [h0.2]; simp [e]
  · have h1 := h ((flat (l.take a)).length + 1 + q) (by omega); refine ⟨by omega, ?_⟩; rw [show i + (flat (l.take a)).length + 1 + q = i + ((flat (l.take a)).length + 1 + q) by omega, h1.2]
    have h2 : (flat l)[(flat (l.take a)).length + 1 + q]? = (flat l[a].f2)[q]? := by
      rw [e, List.getElem?_append_right (by omega), show (flat (l.take a)).length + 1 + q - (flat (l.take a)).length = q + 1 by omega, List.getElem?_cons_succ, List.getElem?_append_left hq]
    rw [List.getElem?_eq_getElem (by omega), List.getElem?_eq_getElem hq] at h2; exact Option.some.inj h2
theorem keyed : Go.Maps.Keyed Try.prog 169 := Go.Maps.Keyed.of_law (deep_law (m := 3) (by decide) (by kernel_rfl) (by kernel_rfl) (by kernel_rfl))
def pairV (i j : Nat) : Value := .agg #[.int .i64 i, .int .i64 j]
noncomputable def keyL (i j : Nat) : Lit := (Go.keyOf Try.prog 169 (pairV i j)).getD (.bool false)
theorem key_kt : Try.prog.keyType 169 = true := by kernel_rfl
theorem key_cells : Try.prog.cellsOf 169 = 2 := by kernel_rfl
theorem key_cells1 : Try.prog.cellsOf 3 = 1 := by kernel_rfl
theorem key_types : ∃ m, Try.prog.types.size = m + 1 := ⟨Try.prog.types.size - 1, by kernel_rfl⟩
theorem wf_nat (i : Nat) (hi : i < 4611686018427387904) : (Lit.int .i64 (i : Int)).wf = true := WalkArith.wf_i64 (by omega)
theorem key_is (i j : Nat) (hi : i < 4611686018427387904) (hj : j < 4611686018427387904) : Go.keyOf Try.prog 169 (pairV i j) = some (keyL i j) := by
  have h : ∃ l, Go.keyOf Try.prog 169 (pairV i j) = some l := by
    obtain ⟨m, hm⟩ := key_types; have w1 := wf_nat i hi; have w2 := wf_nat j hj; have hr : (List.range 2) = [0, 1] := rfl; unfold Go.keyOf; rw [Try.underlying169]
    have hf : (pairV i j).formed Try.prog 169 = true := by unfold pairV Value.formed; rw [Try.underlying169, key_cells]; rfl
    rw [key_kt, hf, hm]; simp only [Bool.and_self, if_true]; unfold pairV Program.keyLits; simp only [Try.underlying169, key_cells, key_cells1, Value.cells]; simp [hr, Program.keyLits, Try.underlying3, w1, w2]
  obtain ⟨l, hl⟩ := h; unfold keyL; rw [hl]; rfl
theorem key_inj {i j i' j' : Nat} (hi : i < 4611686018427387904) (hj : j < 4611686018427387904) (hi' : i' < 4611686018427387904) (hj' : j' < 4611686018427387904) (h : keyL i j = keyL i' j') : i = i' ∧ j = j' := by
  have h1 := keyed.inj (key_is i j hi hj) (by rw [h]; exact key_is i' j' hi' hj'); unfold pairV at h1
  injection h1 with h1
  have h2 := congrArg Array.toList h1; simp at h2
  omega
theorem nodup_lt : ∀ (n : Nat) (L : List Nat), L.Nodup → (∀ x ∈ L, x < n) → L.length ≤ n := by
  intro n
  induction n with
  | zero => intro L _ h; cases L with
    | nil => exact Nat.le_refl _
    | cons x r => exact absurd (h x (by simp)) (Nat.not_lt_zero _)
  | succ n ih =>
    intro L hn h
    have h1 := ih (L.erase n) (hn.erase n) (fun x hx => by
      have h2 := (List.Nodup.mem_erase_iff hn).1 hx; have := h x h2.2; have := h2.1
      omega)
    by_cases hm : n ∈ L
    · have := List.length_erase_of_mem hm; omega
    · rw [List.erase_of_not_mem hm] at h1; omega
theorem pairs_le {NA NB : Nat} {L : List (Nat × Nat)} (hn : L.Nodup) (h : ∀ p ∈ L, p.1 < NA ∧ p.2 < NB) : L.length ≤ NA * NB := by
  have h1 := nodup_lt (NA * NB) (L.map fun p => p.1 * NB + p.2) ?_ ?_
  · simpa using h1
  · refine List.pairwise_map.2 (hn.imp_of_mem (fun {p q} hp hq hne e => hne ?_)); have a := h p hp; have b := h q hq
    have h1 : p.1 = q.1 := by
      have e1 : (p.1 * NB + p.2) / NB = p.1 := by rw [Nat.mul_comm, Nat.mul_add_div (by omega), Nat.div_eq_of_lt a.2]; rfl
      have e2 : (q.1 * NB + q.2) / NB = q.1 := by rw [Nat.mul_comm, Nat.mul_add_div (by omega), Nat.div_eq_of_lt b.2]; rfl
      rw [← e1, ← e2, e]
    have h2 : p.2 = q.2 := by rw [h1] at e; omega
    exact Prod.ext h1 h2
  · intro x hx; obtain ⟨p, hp, rfl⟩ := List.mem_map.1 hx; have a := h p hp; have h1 : (p.1 + 1) * NB ≤ NA * NB := Nat.mul_le_mul_right _ a.1; rw [Nat.add_mul, Nat.one_mul] at h1; show p.1 * NB + p.2 < _
    omega
def Kn (M NA NB : Nat) (T U : Nat → Tm) (W : World) : Prop :=
  ∃ (D : DataW Unit) (L : List (Nat × Nat)), W.ownsMap Try.prog 169 (plainElem Try.prog 4) M L.length D ∧ L.Nodup ∧ (∀ p ∈ L, p.1 < NA ∧ p.2 < NB) ∧
    ∀ i j, i < NA → j < NB → Maps.has D (keyL i j) = decide ((i, j) ∈ L) ∧ ((i, j) ∈ L → ∀ z, D.atKey (keyL i j) z = .lit (.bool (emb (T i) (U j))))
theorem Kn.made (w : World) (NA NB : Nat) (T U : Nat → Tm) : Kn w.heap.size NA NB T U (w.alloc (.map #[] 0)) :=
  ⟨.map [], [], World.ownsMap_made _ _ _ _, List.nodup_nil, fun p hp => by simp at hp, fun i j _ _ => ⟨rfl, fun h => by simp at h⟩⟩
theorem Kn.grown {M NA NB : Nat} {T U : Nat → Tm} {w w' : World} {row : Option Nat} (h : Kn M NA NB T U w) (hg : w.grownBy w' row) (hne : some M ≠ row) : Kn M NA NB T U w' := by
  obtain ⟨D, L, h1, r⟩ := h; exact ⟨D, L, h1.kept hg hne, r⟩
theorem Kn.lt {M NA NB : Nat} {T U : Nat → Tm} {w : World} (h : Kn M NA NB T U w) : M < w.heap.size := by
  obtain ⟨D, L, h1, r⟩ := h; exact h1.lt
theorem Kn.below {M NA NB : Nat} {T U : Nat → Tm} {w w' : World} (h : Kn M NA NB T U w) (hb : Below w.heap.size w w') : Kn M NA NB T U w' :=
  h.grown (row := none) (grown_of_below hb none) (by simp)
theorem Kn.setCell {M NA NB : Nat} {T U : Nat → Tm} {w : World} (h : Kn M NA NB T U w) (b i : Nat) (v : Value) (hne : M ≠ b) : Kn M NA NB T U (w.setCell ⟨b, i, none⟩ v) :=
  h.grown (grown_set w b i v) (fun e => hne (by cases e; rfl))
end Go.Proofs.Ytjhjhhibbmligaa.TE
end
