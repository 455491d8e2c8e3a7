/- The parser: item at a quotation of a word, in general. -/
import Derived.Test.YtjhjhhibbmligaaMTEParts3
import Derived.Test.YtjhjhhibbmligaaMTEParts4
import Derived.Test.YtjhjhhibbmligaaMTECmp
import Derived.Test.YtjhjhhibbmligaaMTEx15
import Derived.Test.YtjhjhhibbmligaaMTEx17
import Derived.Test.YtjhjhhibbmligaaMTEPi2
section
namespace Go.Proofs.Ytjhjhhibbmligaa.TE
open Go.RowKit Go.Proofs.YtjhjhhibbmligaaW.PrintWords Go.Proofs.YtjhjhhibbmligaaW.PrintLast Go.Proofs.YtjhjhhibbmligaaW.PrintMore Go.Proofs.Ytjhjhhibbmligaa.Evs
set_option linter.unusedVariables false
set_option linter.unusedSimpArgs false
theorem isv_some (a : Int) (b : ByteArray) (c : List S42) : ∃ r, term_IsVariable.f a b c = some r := by unfold term_IsVariable.f; split <;> exact ⟨_, rfl⟩
def chrL (s : ByteArray) : List S42 := s.data.toList.map (fun b => ⟨1, ⟨#[b]⟩, []⟩)
theorem one_byte {s : ByteArray} {n : Nat} {b : UInt8} {r : List UInt8} (h : s.data.toList.drop n = b :: r) : s.extract n (n + 1) = ⟨#[b]⟩ := by
  apply ba_ext; rw [extract_list, h]; simp
theorem Chars_loop {s : ByteArray} (hb : s.size ≤ 1099511627776) : ∀ (r : List UInt8) (n : Nat) (acc : List S42), s.data.toList.drop n = r → acc = (s.data.toList.take n).map (fun b => (⟨1, ⟨#[b]⟩, []⟩ : S42)) →
    Evt (fun k => chiasmusref01_Chars.l0 k s acc (n : Int)) (chrL s) ∧ Evt (fun k => term_Chars.l0 k s acc (s.size : Int) (n : Int)) (chrL s)
  | [], n, acc, h, ha => by
    have hs : ¬ (n : Int) < (s.size : Int) := by rw [size_len]; exact stop h
    have he : acc = chrL s := by rw [ha, List.take_of_length_le (List.drop_eq_nil_iff.1 h)]; rfl
    refine ⟨Evt.succ ?_, Evt.succ ?_⟩
    · simp only [chiasmusref01_Chars.l0, if_neg hs, he]; exact Evt.const _
    · simp only [term_Chars.l0, if_neg hs, he]; exact Evt.const _
  | b :: r, n, acc, h, ha => by
    obtain ⟨h1, h2, h3, h4, h5⟩ := mid h (by rw [← size_len]; exact hb)
    have h1' : (n : Int) < (s.size : Int) := by rw [size_len]; exact h1
    have hb1 := one_byte h
    have h6 : (n : Int) ≤ ((n + 1 : Nat) : Int) := by omega
    have h7 : ((n + 1 : Nat) : Int) ≤ (s.size : Int) := by omega
    have hl : acc.length < 2932031007402 := by rw [ha, List.length_map, List.length_take]; rw [size_len] at hb; omega
    have hx : s.data.toList[n]? = some b := by
      have := congrArg (fun l => l[0]?) h
      simpa using this
    have ih := Chars_loop hb r (n + 1) (acc ++ [⟨1, ⟨#[b]⟩, []⟩]) h4 (by rw [ha, List.take_add_one, hx]; simp); refine ⟨Evt.succ ?_, Evt.succ ?_⟩
    · simp only [chiasmusref01_Chars.l0, if_pos h1', if_pos h2, h5, if_pos h6, if_pos h7, Int.toNat_natCast, hb1, if_pos hl]; exact ih.1
    · simp only [term_Chars.l0, if_pos h1', if_pos h2, h5, if_pos h6, if_pos h7, Int.toNat_natCast, hb1, if_pos hl]; exact ih.2
theorem Chars_ev {s : ByteArray} (hb : s.size ≤ 1099511627776) : Evt (fun k => chiasmusref01_Chars.f k s) (chrL s) ∧ Evt (fun k => term_Chars.f k s) (chrL s) := Chars_loop hb _ 0 [] rfl rfl
end Go.Proofs.Ytjhjhhibbmligaa.TE
end
section
namespace Go.Proofs.Ytjhjhhibbmligaa.TE
open Go.RowKit Go.Shelf Go.Proofs.YtjhjhhibbmligaaW.PrintWords Go.Proofs.YtjhjhhibbmligaaW.PrintLast Go.Proofs.YtjhjhhibbmligaaW.PrintMore Go.Proofs.Ytjhjhhibbmligaa.Evs
set_option linter.unusedVariables false
set_option linter.unusedSimpArgs false
theorem repsC {α : Type} {R : α → List Value → Prop} {x : α} {r : List α} {c cs : List Value} (hx : R x c) (hc : c.length = 3) (h : Reps R 3 r cs) : Reps R 3 (x :: r) (c ++ cs) := by
  refine ⟨by rw [List.length_append, hc, h.1, List.length_cons]; omega, fun j p hp => ?_⟩
  cases j with
  | zero =>
    obtain rfl : x = p := by simpa using hp
    simp only [Nat.zero_mul, List.drop_zero]; rw [List.take_append_of_le_length (by omega), List.take_of_length_le (by omega)]; exact hx
  | succ j =>
    have := h.2 j p (by simpa using hp); rw [show (j + 1) * 3 = c.length + j * 3 by omega, List.drop_length_add_append]; exact this
theorem repsA {α : Type} {R : α → List Value → Prop} {r r2 : List α} {cs cs2 : List Value} (h1 : Reps R 3 r cs) (h2 : Reps R 3 r2 cs2) : Reps R 3 (r ++ r2) (cs ++ cs2) := by
  have l1 := h1.1; have l2 := h2.1; refine ⟨by simp; omega, fun i p hp => ?_⟩
  by_cases hi : i < r.length
  · rw [List.getElem?_append_left hi] at hp; have := h1.2 i p hp; rw [List.drop_append_of_le_length (by omega), List.take_append_of_le_length (by rw [List.length_drop]; omega)]; exact this
  · rw [List.getElem?_append_right (by omega)] at hp; have := h2.2 _ p hp; rw [List.drop_append, List.drop_of_length_le (by omega), List.nil_append, l1, show i * 3 - r.length * 3 = (i - r.length) * 3 by omega]; exact this
theorem flatF (W : World) (ok : Nat → Prop) {r : List Tm} {cs : List Value} (h : Flat r cs) : Reps (fun x c => Kd.FK k42 W ok x c) 3 r cs := by
  induction h with
  | nil => exact Reps.none _ _
  | cons k t A c r cs h ih => exact repsC (c := [.int .i64 k, .string t, .slice A 0 c]) (k42_mkF W ok (⟨k, t, []⟩ : Tm) (Nat.zero_le _) (fun W2 hW => ⟨rfl, Nat.zero_le _, fun hp => absurd hp (Nat.lt_irrefl _)⟩)) rfl ih
theorem TR.many {W W' : World} {base g : Nat} {ok ok' : Nat → Prop} {v v' : Value} {l r : List Tm} {xs cs : List Value} (h : TR W base ok v l) (hr : Reps (fun x c => Kd.FK k42 W (fun k => ok k ∧ some k ≠ v.ownBlock) x c) 3 l xs)
    (ho' : W'.ownsRow base 42 3 v' (l.length + r.length) (xs ++ cs)) (hat : ∀ b, v'.ownBlock = some b → v.ownBlock = some b ∨ W.heap.size ≤ b) (hf : Fr W W' (fun i => i = g ∨ some i = v.ownBlock)) (hg : ¬ ok g)
    (hok : ∀ k, ok k → k < W.heap.size → ok' k) (hfresh : ∀ k, W.heap.size ≤ k → k < W'.heap.size → ok' k) (hx : Flat r cs) : TR W' base ok' v' (l ++ r) := by
  refine ⟨fun k e => ?_, xs ++ cs, by rw [List.length_append]; exact ho', repsA (hr.imp_ (fun y c hy => ?_)) (flatF _ _ hx)⟩
  · rcases hat k e with e' | e'
    · exact hok k (h.1 k e') ((by obtain ⟨_, ho, _⟩ := h.own; exact (own_ltA ho k e').1))
    · exact hfresh k e' (own_ltA ho' k e).1
  · refine Kd.FK_mono (Kd.FK_step (Kd.FK_bound hy) (fun k e hl => hf.block k hl (fun e' => ?_))) (fun k e => ⟨hok k e.1.1 e.2, fun e' => ?_⟩)
    · rcases e' with e' | e'
      · subst e'; exact hg e.1.1
      · exact e.1.2 e'
    · rcases hat k e'.symm with e'' | e''
      · exact e.1.2 e''.symm
      · have := e.2; omega
theorem PM.extend {n : Nat} {w0 W : World} {g : Nat} {s : ByteArray} {a fault : Int} {l : List Tm} {st : List Op} (h : PM n w0 W g s a fault l st) : ∃ vl vs xs, Pz W g s a fault vl vs ∧ W.ownsRow w0.heap.size 42 3 vl l.length xs ∧ (∀ k, vl.ownBlock = some k → k < n ∧ k ≠ g) ∧
    (∀ w2 w5 v5 (r : List Tm) cs, Below W.heap.size W w2 → w5.ownsRow w0.heap.size 42 3 v5 (l.length + r.length) (xs ++ cs) → w2.grownBy w5 vl.ownBlock → (∀ b, v5.ownBlock = some b → vl.ownBlock = some b ∨ w2.heap.size ≤ b) → Flat r cs → PS w0 (w5.setCell ⟨g, 3, none⟩ v5) g s a fault (l ++ r) st) := by
  obtain ⟨vl, vs, avs, h1, h2, h3, h5, h4⟩ := h.mem; obtain ⟨ok, o1, o2, o3⟩ := h4; replace o2 : TR W w0.heap.size ok vl l := o2; obtain ⟨xs, ho, hrep⟩ := o2.own; have hne : some g ≠ vs.ownBlock := own_neG h3 (by decide) h2; have hgv : some g ≠ vl.ownBlock := own_ne ho h2; have hnle := h.nle; refine ⟨vl, vs, xs, h2, ho, fun k e => ⟨(o1 k (o2.1 k e)).1, (o1 k (o2.1 k e)).2.1⟩, fun w2 w5 v5 r cs hb ho5 hg5 hat hfl => ?_⟩
  have hat' : ∀ b, v5.ownBlock = some b → vl.ownBlock = some b ∨ W.heap.size ≤ b := fun b e => (hat b e).imp id (Nat.le_trans hb.size)
  have hP5 : Pz w5 g s a fault vl vs := Pz.grown (Pz.newer h2 hb) hg5 hgv; have hf : Fr W (w5.setCell ⟨g, 3, none⟩ v5) (fun i => i = g ∨ some i = vl.ownBlock) := ((fr_below (Fr.refl W _) hb).trans (Fr.of_grown hg5 (fun i e => .inr e.symm))).trans (Fr.of_grown (grown_set _ g 3 _) (fun i e => .inl (by cases e; rfl)))
  have hvl : ∀ k, vl.ownBlock = some k → some k ≠ vs.ownBlock := fun k e => (o1 k (o2.1 k e)).2.2
  have hsame : ∀ k, k < W.heap.size → k ≠ g → some k ≠ vl.ownBlock → (w5.setCell ⟨g, 3, none⟩ v5).heap[k]? = W.heap[k]? := fun k hl hk hv => hf.block k hl (fun e => e.elim hk hv)
  have ho' : (w5.setCell ⟨g, 3, none⟩ v5).ownsRow w0.heap.size 42 3 v5 (l.length + r.length) (xs ++ cs) := own_farG ho5 g 3 _ (own_neG ho5 (by decide) hP5)
  refine ⟨fr_below0 h.below hf (fun k e => e.elim (fun e => by rw [e]; exact h.geb) (fun e => (own_ltA ho k e.symm).2)), h.geb, v5, vs, avs, h1, hP5.setList v5,
    own_same h3 (fun k e => hsame k (own_ltA h3 k e).1 (fun e' => hne (by rw [← e', e])) (fun e' => hvl k e'.symm e.symm)), ?_⟩
  have hgl : g < W.heap.size := Nat.lt_of_lt_of_le h.gn h.nle; refine ⟨fun k => (ok k ∧ k < W.heap.size) ∨ W.heap.size ≤ k ∧ k < (w5.setCell ⟨g, 3, none⟩ v5).heap.size, fun k hk => ?_, ?_, ?_⟩
  · rcases hk with hk | hk
    · exact ⟨Nat.lt_of_lt_of_le hk.2 hf.size, (o1 k hk.1).2⟩
    · exact ⟨hk.2, by omega, fun e => by have := (own_ltA h3 k e.symm).1; omega⟩
  · exact o2.many hrep ho' hat' hf (fun hk => (o1 g hk).2.1 rfl) (fun k hk hl => .inl ⟨hk, hl⟩) (fun k h1 h2 => .inr ⟨h1, h2⟩) hfl
  · refine Rows.move o3 (fun k hk hl => hsame k hl hk.1.2.1 (fun e => hk.2 (o2.1 k e.symm))) (fun k hk => ⟨⟨Nat.lt_of_lt_of_le hk.1.1 (Nat.le_trans hnle hf.size), hk.1.2⟩, fun e => ?_⟩)
    rcases e with e | e
    · exact hk.2 e.1
    · have := hk.1.1; omega
theorem step_append_any {P : Program} (w : World) {ops : Array Oper} {o : Oper} {a : Act} {K : Act → World → Prop} {Q : Exit → Act → World → Prop} {E : Prop} (hgd : o.guard = none) (s x : Operand) (t : TypeId)
    (ho : o.op = .call { callee := .builtin .append, args := #[s, x], argTypes := #[t, t] })
    (base : Nat) (e : TypeId) (i : TypeInfo) (z : Value) (size bytes : Nat) (ht : P.underlying t = some (.slice e)) (hi : P.info? e = some i) (hz : i.zero = some z)
    (hsize : i.size = size) (hby : i.bytes = bytes) (hzs : z.cells.size = size) (hsz : 0 < size)
    (v : Value) (n : Nat) (xs : List Value) (hs : a.eval s = v) (hown : w.ownsRow base e size v n xs)
    (A : Option Addr) (m c : Nat) (news : List Value) (hx : a.eval x = .slice A m c) (hA : A = none → m = 0 ∧ c = 0) (hl : news.length = m * size) (hnews : ∀ ad, A = some ad → ∀ j u, news[j]? = some u → w.cell? (ad.add j) = some u) (h1 : ∀ u ∈ news, u.oneCell' = true)
    (h63 : n + m ≤ maxLen) (hbytes : (n + m) * bytes ≤ 140737488355328) (hbase : base ≤ w.heap.size)
    (h : ∀ v' w', w'.ownsRow base e size v' (n + m) (xs ++ news) → w.grownBy w' v.ownBlock → (∀ b, v'.ownBlock = some b → v.ownBlock = some b ∨ w.heap.size ≤ b) → K (a.put o.dst v') w') :
    if Region.wanted o (yielded ops a.tmps) = true then Oper.wp P o a w K Q else E := by
  cases A with
  | some ad => exact step_append_own2 w hgd s x t ho base e i z size bytes ht hi hz hsize hby hzs hsz v n xs hs hown ad m c news hx hl (hnews ad rfl) h1 h63 hbytes hbase h
  | none =>
    obtain ⟨rfl, rfl⟩ := hA rfl; have hn0 : news = [] := List.eq_nil_of_length_eq_zero (by omega); subst hn0
    have hw : Region.wanted o (yielded ops a.tmps) = true := by simp [Region.wanted, hgd]
    rw [if_pos hw]; have hr := run_append_owned_none (P := P) (w := w) base t o.type e i size ht hi v n xs hown; unfold Oper.wp execOp; simp only [ho, resolve, invoke, builtin, Sem.run_bind, Sem.run_pure, Result.andThen_ok, List.map_toArray, List.map_cons, List.map_nil, hs, hx, hr]; exact h v w (by simpa using hown) (World.grownBy.refl w _) (fun b hb => .inl hb)
theorem bytes_string {W : World} {base : Nat} {vo : Value} {out : List UInt8} (h : W.ownsRow base 5 1 vo out.length (Lib.byteCells out)) (n : Nat) : (convert 132 9 vo).run Try.prog (W.drewN n) = .ok (.string ⟨out.toArray⟩) (W.drewN n) := by
  rcases h.2 with ⟨rfl, h0⟩ | ⟨b, cap, cur, rfl, _⟩
  · have : out = [] := List.eq_nil_of_length_eq_zero h0; subst this; rw [run_convert_bytes_string (P := Try.prog) (W.drewN n) 132 9 5 none 0 0 Try.underlying132 Try.underlying5 Try.underlying9]; rfl
  · exact run_convert_bytes_back (P := Try.prog) (W.drewN n) 132 9 5 ⟨b, 0, none⟩ cap out Try.underlying132 Try.underlying5 Try.underlying9 (fun j hj => (h.cells rfl j _ (by simp [Lib.byteCells, List.getElem?_eq_getElem hj])))
end Go.Proofs.Ytjhjhhibbmligaa.TE
end
section
namespace Go.Proofs.Ytjhjhhibbmligaa.TE
open Go.RowKit Go.Shelf Go.Proofs.YtjhjhhibbmligaaW.PrintWords Go.Proofs.YtjhjhhibbmligaaW.PrintLast Go.Proofs.YtjhjhhibbmligaaW.PrintMore Go.Proofs.Ytjhjhhibbmligaa.Evs
set_option linter.unusedVariables false
set_option linter.unusedSimpArgs false
def DOk (acc : List UInt8) : QR → Prop
  | .done _ _ _ out => out.length ≤ acc.length
  | .more _ _ => True
theorem quoR_dok (s : ByteArray) (q : UInt8) (a : Nat) (acc : List UInt8) : DOk acc (quoR s q a acc) := by
  unfold quoR; refine dite_okQ (fun h => ?_) (fun h => Nat.zero_le _); refine ite_okQ (Nat.le_refl _) (ite_okQ (Nat.zero_le _) (ite_okQ trivial (dite_okQ (fun h1 => ?_) (fun _ => Nat.zero_le _)))); refine ite_okQ trivial (ite_okQ trivial (ite_okQ trivial (ite_okQ (dite_okQ (fun h3 => ?_) (fun _ => Nat.zero_le _)) (Nat.zero_le _)))); exact ite_okQ (Nat.zero_le _) trivial
theorem quoS_len (s : ByteArray) (q : UInt8) : ∀ (n a : Nat) (acc : List UInt8), s.size - a ≤ n → (quoS s q a acc).2.2.2.length ≤ acc.length + (s.size - a) := by
  intro n
  induction n with
  | zero =>
    intro a acc hn; have hd := quoR_dok s q a acc; rw [quoS]
    split
    · rename_i h'; rw [h'] at hd; exact Nat.le_trans hd (Nat.le_add_right _ _)
    · rename_i h'; have := quoR_lt h'; omega
  | succ n ih =>
    intro a acc hn; have hd := quoR_dok s q a acc; rw [quoS]
    split
    · rename_i h'; rw [h'] at hd; exact Nat.le_trans hd (Nat.le_add_right _ _)
    · rename_i a' acc' h'; have h1 := quoR_lt h'; have := ih a' acc' (by omega); omega
set_option maxRecDepth 100000 in
set_option maxHeartbeats 4000000 in
theorem PS.item_chars {w0 W : World} {g a : Nat} {s : ByteArray} {fault : Int} {l : List Tm} {st : List Op} (h : PS w0 W g s a fault l st) (hs : s.size ≤ 1048576) (hn8 : l.length ≤ 1048576)
    (ha : a < s.size) (hc : (s[a]'ha).toNat = 39) (R : Bool × Nat × Option Nat × List UInt8) (hR : R = quoS s (s[a]'ha) (a + 1) []) :
    Calls Try.prog 120 #[.pointer (some ⟨g, 0, none⟩)] W fun e W' => e = .returned (.bool R.1) ∧ PS w0 W' g s (R.2.1 : Nat) (failO fault R.2.2.1) (l ++ chrL ⟨R.2.2.2.toArray⟩) st := by
  have hbl : Below W.heap.size W (W.alloc (.cells #[.pointer (some ⟨g, 0, none⟩)] 139)) := (Below.refl _ _).alloc (Nat.le_refl _) _; have hn0 := World.alloc_heap_new W (.cells #[.pointer (some ⟨g, 0, none⟩)] 139); obtain ⟨W0, hW0⟩ : ∃ W0, W.alloc (.cells #[.pointer (some ⟨g, 0, none⟩)] 139) = W0 := ⟨_, rfl⟩; have HW0 := Aside0.mk hW0; rw [hW0] at hbl hn0; have x0 : W0.cell? ⟨W.heap.size, 0, none⟩ = some (.pointer (some ⟨g, 0, none⟩)) := (q4 hn0 0).trans rfl; have hp0 : PM W.heap.size w0 W0 g s a fault l st := h.pm.newer hbl; obtain ⟨p0, p1, p2, pf1⟩ := hp0.cells; have hgl : g < W.heap.size := h.lt; have ha0 : (0 : Int) ≤ (a : Int) := Int.natCast_nonneg _
  have ha1 : (a : Int) < (s.size : Int) := by omega
  have hbt : ((s[a]'ha).toNat : Int) = 39 := by omega
  have hlen : R.2.2.2.length ≤ 1048576 := by have := quoS_len s (s[a]'ha) _ (a + 1) [] (Nat.le_refl _); rw [← hR] at this; simp at this; omega
  have HLEN := Aside0.mk hlen; have HP0 := Aside0.mk hp0; have HBL := Aside0.mk hbl; have HN0 := Aside0.mk hn0; have HN8 := Aside0.mk hn8; have HS := Aside0.mk hs; have HA := Aside0.mk ha; have HRQ := Aside0.mk hR; obtain ⟨tx, htx⟩ : ∃ tx : ByteArray, tx = ⟨R.2.2.2.toArray⟩ := ⟨_, rfl⟩; rw [← htx]
  have hts : tx.size ≤ 1048576 := by rw [htx]; exact hlen
  have HTX := Aside0.mk htx; have HB0 := Aside0.mk (Nat.le_trans h.below.size hbl.size); clear h hn8 hp0 hbl hW0 hn0 hs hc hR hlen htx; obtain ⟨kk, hch⟩ := (Chars_ev (s := tx) (by omega)).2.get; have HCH := Aside0.mk hch
  have hrl : (chrL tx).length ≤ 1048576 := by unfold chrL; rw [List.length_map, ← size_len]; exact hts
  have HRL := Aside0.mk hrl; have HK : Aside0 (∀ x ∈ chrL tx, x.f2 = []) := ⟨by intro x hx; unfold chrL at hx; obtain ⟨b, _, rfl⟩ := List.mem_map.1 hx; rfl⟩; obtain ⟨r, hr⟩ : ∃ r, r = chrL tx := ⟨_, rfl⟩; rw [← hr] at HCH HRL HK ⊢; clear hch hrl hr hts
  go_enter Try.func120, Try.ntmps120
  go_wp2_with fail
  rw [HW0.out]
  go_quiet (fail)
  generalize nq = nq1
  go_wp2_with fail
  refine (HP0.out.drewN.quotation HS.out HA.out).mono ?_; rintro e' w1 ⟨vo, rfl, hp, hvo, hg⟩; rw [← HRQ.out] at hp hvo; rw [← HRQ.out]; have HVO := Aside0.mk hvo; have hx1 := (hg.block _ (Array.getElem?_eq_some_iff.1 HN0.out).1 (fun e => by injection e with e; omega)).trans HN0.out; have z0 : w1.cell? ⟨W.heap.size, 0, none⟩ = some (.pointer (some ⟨g, 0, none⟩)) := (q4 hx1 0).trans rfl; have hsz1 : W.heap.size < w1.heap.size := (Array.getElem?_eq_some_iff.1 hx1).1; have HX1 := Aside0.mk hx1; have hbs1 : w0.heap.size ≤ w1.heap.size := Nat.le_trans HB0.out hg.size; have HBS := Aside0.mk hbs1; obtain ⟨vl, vs, xs, hPz, hov, hvb, hext⟩ := hp.extend
  have hcv : (convert 132 9 vo).run Try.prog w1.drew = .ok (.string tx) w1.drew := by have := bytes_string HVO.out 1; rw [← HTX.out] at this; exact this
  clear x0 p0 p1 p2 pf1; have p3 := hPz.cells.2.2.2.1; have HPZ := Aside0.mk hPz; have HOV := Aside0.mk hov; have HVB := Aside0.mk hvb; have HEXT := Aside0.mk hext; clear hp hvo hg hx1 hPz hov hvb hext hbs1; obtain ⟨i0, hi, hz0, hz1, hz2⟩ := info_parts info_term
  go_upto_region 5 with fail
  refine wp_region_held_drew (S := fun W' => W'.cell? ⟨W.heap.size, 0, none⟩ = some (.pointer (some ⟨g, 0, none⟩))) (by kernel_rfl) ?_ (fun hHeld => ?_)
  · exact z0
  refine wpAnyH_take (i := 0) (oi := { dst := some 32, op := Go.Op.load 139 (Go.Operand.tmp 1), type := 139, pos := "term.go:506", after := #[], guard := none }) (v := ?_) rfl (by kernel_rfl) (by kernel_rfl) (by kernel_rfl) (fun _ _ _ h => h) (Or.inl ⟨by rfl, ?_⟩) (by assumption) ?_; rotate_left
  · (intro w hSw; (try dsimp only at hSw); go_simp; first | done | with_reducible rfl)
  (try simp only [Act.put, List.setIfInBounds_toArray, List.set_cons_zero, List.set_cons_succ])
  refine wpAnyH_take (i := 1) (oi := { dst := some 33, op := Go.Op.load 139 (Go.Operand.tmp 1), type := 139, pos := "term.go:506", after := #[], guard := none }) (v := ?_) rfl (by kernel_rfl) (by kernel_rfl) (by kernel_rfl) (fun _ _ _ h => h) (Or.inl ⟨by rfl, ?_⟩) (by assumption) ?_; rotate_left
  · (intro w hSw; (try dsimp only at hSw); go_simp; first | done | with_reducible rfl)
  (try simp only [Act.put, List.setIfInBounds_toArray, List.set_cons_zero, List.set_cons_succ])
  refine wpAnyH_take (i := 5) (oi := { dst := some 37, op := Go.Op.move (Go.Operand.tmp 6), type := 132, pos := "term.go:506", after := #[], guard := none }) (v := ?_) rfl (by kernel_rfl) (by kernel_rfl) (by kernel_rfl) (fun _ _ _ h => h) (Or.inl ⟨by rfl, ?_⟩) (by assumption) ?_; rotate_left
  · (intro w hSw; (try dsimp only at hSw); go_simp; first | done | with_reducible rfl)
  (try simp only [Act.put, List.setIfInBounds_toArray, List.set_cons_zero, List.set_cons_succ])
  refine wpAnyH_take (i := 2) (oi := { dst := some 34, op := Go.Op.nilCheck (Go.Operand.tmp 33), type := 0, pos := "term.go:506", after := #[{ on := 1, ground := Go.Ground.data }], guard := none }) (v := ?_) rfl (by kernel_rfl) (by kernel_rfl) (by kernel_rfl) (fun _ _ _ h => h) (Or.inl ⟨by rfl, ?_⟩) (by assumption) ?_; rotate_left
  · (intro w hSw; (try dsimp only at hSw); go_simp; first | done | with_reducible rfl)
  (try simp only [Act.put, List.setIfInBounds_toArray, List.set_cons_zero, List.set_cons_succ])
  refine wpAnyH_take (i := 3) (oi := { dst := some 35, op := Go.Op.fieldAddr 142 (Go.Operand.tmp 34) 3, type := 0, pos := "term.go:506", after := #[{ on := 2, ground := Go.Ground.data }], guard := none }) (v := ?_) rfl (by kernel_rfl) (by kernel_rfl) (by kernel_rfl) (fun _ _ _ h => h) (Or.inl ⟨by rfl, ?_⟩) (by assumption) ?_; rotate_left
  · (intro w hSw; (try dsimp only at hSw); go_simp; first | done | with_reducible rfl)
  (try simp only [Act.put, List.setIfInBounds_toArray, List.set_cons_zero, List.set_cons_succ])
  refine wpAnyH_ready (rs := [4, 6]) (by kernel_rfl) (by simp) ?_; refine AllReadyH.cons (o := { dst := some 36, op := Go.Op.load 22 (Go.Operand.tmp 35), type := 22, pos := "term.go:506", after := #[{ on := 3, ground := Go.Ground.data }], guard := none }) rfl (fun K hK => ?_) (AllReadyH.cons (o := { dst := some 38, op := Go.Op.convert 132 9 (Go.Operand.tmp 37), type := 9, pos := "term.go:506", after := #[{ on := 5, ground := Go.Ground.data }], guard := none }) rfl (fun K hK => ?_) AllReadyH.nil)
  · go_simp
    try go_wp2_with fail
    refine hK.out _ _ ?_ (fun hHeld => ?_)
    · (try dsimp only); (first | exact z6 | exact z5 | exact z2 | exact z0 | assumption)
    clear hK K
    (try simp only [Act.put, List.setIfInBounds_toArray, List.set_cons_zero, List.set_cons_succ])
    refine wpAnyH_ready (rs := [6]) (by kernel_rfl) (by simp) ?_; refine AllReadyH.cons (o := { dst := some 38, op := Go.Op.convert 132 9 (Go.Operand.tmp 37), type := 9, pos := "term.go:506", after := #[{ on := 5, ground := Go.Ground.data }], guard := none }) rfl (fun K hK => ?_) AllReadyH.nil; go_simp
    try go_wp2_with fail
    refine hK.out _ _ ?_ (fun hHeld => ?_)
    · (try dsimp only); (first | exact z6 | exact z5 | exact z2 | exact z0 | assumption)
    clear hK K
    (try simp only [Act.put, List.setIfInBounds_toArray, List.set_cons_zero, List.set_cons_succ])
    refine wpAnyH_ready (rs := [7]) (by kernel_rfl) (by simp) ?_; refine AllReadyH.cons (o := { dst := some 39, op := Go.Op.call { callee := Go.Callee.value (Go.Operand.func 68), args := #[Go.Operand.tmp 38], argTypes := #[9] }, type := 22, pos := "term.go:506", after := #[{ on := 6, ground := Go.Ground.data }], guard := none }) rfl (fun K hK => ?_) AllReadyH.nil; go_simp
    go_at_call 68
    refine (term_Chars.calls kk tx r _ HCH.out).mono ?_; rintro e w2 ⟨vc, rfl, hR, hb2'⟩; have hb2 := q12 (below_drew (Below.refl w1.heap.size w1)) hb2'; obtain ⟨inner, hown2, hreps⟩ := hR.2; have HFL := Aside0.mk (flat_of_reps r inner HK.out hreps)
    obtain ⟨A, cc, hvc, hA⟩ : ∃ A cc, vc = .slice A r.length cc ∧ (A = none → r.length = 0 ∧ cc = 0) := by
      rcases hown2.2 with ⟨h1, h0⟩ | ⟨b, cap, cur, hv, _⟩
      · exact ⟨none, 0, by rw [h0]; exact h1, fun _ => ⟨h0, rfl⟩⟩
      · exact ⟨_, _, hv, fun h => by cases h⟩
    subst hvc
    have HC2 : Aside0 (∀ ad, A = some ad → ∀ j u, inner[j]? = some u → w2.cell? (ad.add j) = some u) := ⟨by
      rcases hown2.2 with ⟨h1, h0⟩ | ⟨b, cap, cur, hv, _⟩
      · injection h1 with h1 _ _
        intro ad h; rw [h1] at h; cases h
      · intro ad h
        injection hv with h1 h2 h3
        rw [h1] at h; cases h; rw [h1] at hown2
        exact hown2.cells (g := b) rfl⟩
    have HAA := Aside0.mk hA; have HB2 := Aside0.mk hb2; have HP2 := Aside0.mk (HPZ.out.newer hb2); have p3' := HP2.out.cells.2.2.2.1; have HX2 := Aside0.mk ((hb2.block _ hsz1).trans HX1.out); have z2 : w2.cell? ⟨W.heap.size, 0, none⟩ = some (.pointer (some ⟨g, 0, none⟩)) := (q4 HX2.out 0).trans rfl; have HO2 := Aside0.mk (own_below4 HOV.out hb2); have HBS2 := Aside0.mk (Nat.le_trans HBS.out hb2.size); clear hR hown2 hreps hb2 hb2' hA
    try go_wp2_with fail
    refine hK.out _ _ ?_ (fun hHeld => ?_)
    · (try dsimp only); (first | exact z6 | exact z5 | exact z2 | exact z0 | assumption)
    clear hK K
    (try simp only [Act.put, List.setIfInBounds_toArray, List.set_cons_zero, List.set_cons_succ])
    refine wpAnyH_ready (rs := [8]) (by kernel_rfl) (by simp) ?_; refine AllReadyH.cons (o := { dst := some 40, op := Go.Op.call { callee := Go.Callee.builtin Go.Builtin.append, args := #[Go.Operand.tmp 36, Go.Operand.tmp 39], argTypes := #[22, 22] }, type := 22, pos := "term.go:506", after := #[{ on := 4, ground := Go.Ground.data }, { on := 7, ground := Go.Ground.data }, { on := 7, ground := Go.Ground.chain }], guard := none }) rfl (fun K hK => ?_) AllReadyH.nil; have hfl := HFL.out; refine step_append_any _ rfl _ _ 22 rfl w0.heap.size 42 i0 (.agg #[.int .i64 0, .string ⟨#[]⟩, .slice none 0 0]) 3 48 Try.underlying22 hi hz0 hz1 hz2 rfl (by decide) _ _ _ rfl HO2.out A r.length cc inner rfl HAA.out hfl.len HC2.out hfl.one (by have := HN8.out; have := HRL.out; simp only [maxLen]; omega) (by have := HN8.out; have := HRL.out; omega) HBS2.out ?_; intro v5 w5 hown5 hgrow5 hnew5
    obtain ⟨A5, c5, hv5⟩ : ∃ A5 c5, v5 = .slice A5 (l.length + r.length) c5 := by
      rcases hown5.2 with ⟨h1, h0⟩ | ⟨b, cap, cur, hv, _⟩
      · exact ⟨none, 0, by rw [h0]; exact h1⟩
      · exact ⟨_, _, hv⟩
    subst hv5
    have hgv : some g ≠ vl.ownBlock := fun e => (HVB.out g e.symm).2 rfl
    have HP5 := Aside0.mk (Pz.grown HP2.out hgrow5 hgv); have p53 := HP5.out.cells.2.2.2.1; have pf53 := HP5.out.fz 3; have HX5 := Aside0.mk ((hgrow5.block _ (Array.getElem?_eq_some_iff.1 HX2.out).1 (fun e => Nat.lt_irrefl _ (HVB.out _ e.symm).1)).trans HX2.out); have z5 : w5.cell? ⟨W.heap.size, 0, none⟩ = some (.pointer (some ⟨g, 0, none⟩)) := (q4 HX5.out 0).trans rfl; have z6 : (w5.setCell ⟨g, 3, none⟩ (.slice A5 (l.length + r.length) c5)).cell? ⟨W.heap.size, 0, none⟩ = some (.pointer (some ⟨g, 0, none⟩)) := (q4 ((Below.heap_setCell _ ⟨g, 3, none⟩ _ _ (by simp; omega)).trans HX5.out) 0).trans rfl; have HPS := Aside0.mk (HEXT.out w2 w5 _ r inner HB2.out hown5 hgrow5 hnew5 HFL.out); clear hown5 hgrow5 hnew5 hfl hgv
    try go_wp2_with fail
    refine hK.out _ _ ?_ (fun hHeld => ?_)
    · (try dsimp only); (first | exact z6 | exact z5 | exact z2 | exact z0 | assumption)
    clear hK K
    (try simp only [Act.put, List.setIfInBounds_toArray, List.set_cons_zero, List.set_cons_succ])
    refine wpAnyH_take (i := 9) (oi := { dst := some 41, op := Go.Op.nilCheck (Go.Operand.tmp 32), type := 0, pos := "term.go:506", after := #[{ on := 0, ground := Go.Ground.data }, { on := 0, ground := Go.Ground.phase }, { on := 1, ground := Go.Ground.phase }, { on := 2, ground := Go.Ground.phase }, { on := 3, ground := Go.Ground.phase }, { on := 4, ground := Go.Ground.phase }, { on := 5, ground := Go.Ground.phase }, { on := 6, ground := Go.Ground.phase }, { on := 7, ground := Go.Ground.phase }, { on := 8, ground := Go.Ground.phase }], guard := none }) (v := ?_) rfl (by kernel_rfl) (by kernel_rfl) (by kernel_rfl) (fun _ _ _ h => h) (Or.inl ⟨by rfl, ?_⟩) (by assumption) ?_; rotate_left
    · (intro w hSw; (try dsimp only at hSw); go_simp; first | done | with_reducible rfl)
    (try simp only [Act.put, List.setIfInBounds_toArray, List.set_cons_zero, List.set_cons_succ])
    refine wpAnyH_take (i := 10) (oi := { dst := some 42, op := Go.Op.fieldAddr 142 (Go.Operand.tmp 41) 3, type := 0, pos := "term.go:506", after := #[{ on := 9, ground := Go.Ground.data }, { on := 0, ground := Go.Ground.phase }, { on := 1, ground := Go.Ground.phase }, { on := 2, ground := Go.Ground.phase }, { on := 3, ground := Go.Ground.phase }, { on := 4, ground := Go.Ground.phase }, { on := 5, ground := Go.Ground.phase }, { on := 6, ground := Go.Ground.phase }, { on := 7, ground := Go.Ground.phase }, { on := 8, ground := Go.Ground.phase }], guard := none }) (v := ?_) rfl (by kernel_rfl) (by kernel_rfl) (by kernel_rfl) (fun _ _ _ h => h) (Or.inl ⟨by rfl, ?_⟩) (by assumption) ?_; rotate_left
    · (intro w hSw; (try dsimp only at hSw); go_simp; first | done | with_reducible rfl)
    (try simp only [Act.put, List.setIfInBounds_toArray, List.set_cons_zero, List.set_cons_succ])
    refine wpAnyH_ready (rs := [11]) (by kernel_rfl) (by simp) ?_; refine AllReadyH.cons (o := { dst := none, op := Go.Op.store 22 (Go.Operand.tmp 42) (Go.Operand.tmp 40), type := 0, pos := "term.go:506", after := #[{ on := 10, ground := Go.Ground.data }, { on := 8, ground := Go.Ground.data }, { on := 8, ground := Go.Ground.chain }, { on := 0, ground := Go.Ground.phase }, { on := 1, ground := Go.Ground.phase }, { on := 2, ground := Go.Ground.phase }, { on := 3, ground := Go.Ground.phase }, { on := 4, ground := Go.Ground.phase }, { on := 5, ground := Go.Ground.phase }, { on := 6, ground := Go.Ground.phase }, { on := 7, ground := Go.Ground.phase }, { on := 8, ground := Go.Ground.phase }], guard := none }) rfl (fun K hK => ?_) AllReadyH.nil; go_simp
    try go_wp2_with fail
    refine hK.out _ _ ?_ (fun hHeld => ?_)
    · (try dsimp only); (first | exact z6 | exact z5 | exact z2 | exact z0 | assumption)
    clear hK K
    (try simp only [Act.put, List.setIfInBounds_toArray, List.set_cons_zero, List.set_cons_succ])
    refine wpAnyH_done (by kernel_rfl) ?_ _
    go_wp2
    go_ret; exact ⟨rfl, HPS.out⟩
  · go_simp
    try go_wp2_with fail
    refine hK.out _ _ ?_ (fun hHeld => ?_)
    · (try dsimp only); (first | exact z6 | exact z5 | exact z2 | exact z0 | assumption)
    clear hK K
    (try simp only [Act.put, List.setIfInBounds_toArray, List.set_cons_zero, List.set_cons_succ])
    refine wpAnyH_ready (rs := [4, 7]) (by kernel_rfl) (by simp) ?_; refine AllReadyH.cons (o := { dst := some 36, op := Go.Op.load 22 (Go.Operand.tmp 35), type := 22, pos := "term.go:506", after := #[{ on := 3, ground := Go.Ground.data }], guard := none }) rfl (fun K hK => ?_) (AllReadyH.cons (o := { dst := some 39, op := Go.Op.call { callee := Go.Callee.value (Go.Operand.func 68), args := #[Go.Operand.tmp 38], argTypes := #[9] }, type := 22, pos := "term.go:506", after := #[{ on := 6, ground := Go.Ground.data }], guard := none }) rfl (fun K hK => ?_) AllReadyH.nil)
    · go_simp
      try go_wp2_with fail
      refine hK.out _ _ ?_ (fun hHeld => ?_)
      · (try dsimp only); (first | exact z6 | exact z5 | exact z2 | exact z0 | assumption)
      clear hK K
      (try simp only [Act.put, List.setIfInBounds_toArray, List.set_cons_zero, List.set_cons_succ])
      refine wpAnyH_ready (rs := [7]) (by kernel_rfl) (by simp) ?_; refine AllReadyH.cons (o := { dst := some 39, op := Go.Op.call { callee := Go.Callee.value (Go.Operand.func 68), args := #[Go.Operand.tmp 38], argTypes := #[9] }, type := 22, pos := "term.go:506", after := #[{ on := 6, ground := Go.Ground.data }], guard := none }) rfl (fun K hK => ?_) AllReadyH.nil; go_simp
      go_at_call 68
      refine (term_Chars.calls kk tx r _ HCH.out).mono ?_; rintro e w2 ⟨vc, rfl, hR, hb2'⟩; have hb2 := q12 (below_drew (Below.refl w1.heap.size w1)) hb2'; obtain ⟨inner, hown2, hreps⟩ := hR.2; have HFL := Aside0.mk (flat_of_reps r inner HK.out hreps)
      obtain ⟨A, cc, hvc, hA⟩ : ∃ A cc, vc = .slice A r.length cc ∧ (A = none → r.length = 0 ∧ cc = 0) := by
        rcases hown2.2 with ⟨h1, h0⟩ | ⟨b, cap, cur, hv, _⟩
        · exact ⟨none, 0, by rw [h0]; exact h1, fun _ => ⟨h0, rfl⟩⟩
        · exact ⟨_, _, hv, fun h => by cases h⟩
      subst hvc
      have HC2 : Aside0 (∀ ad, A = some ad → ∀ j u, inner[j]? = some u → w2.cell? (ad.add j) = some u) := ⟨by
        rcases hown2.2 with ⟨h1, h0⟩ | ⟨b, cap, cur, hv, _⟩
        · injection h1 with h1 _ _
          intro ad h; rw [h1] at h; cases h
        · intro ad h
          injection hv with h1 h2 h3
          rw [h1] at h; cases h; rw [h1] at hown2
          exact hown2.cells (g := b) rfl⟩
      have HAA := Aside0.mk hA; have HB2 := Aside0.mk hb2; have HP2 := Aside0.mk (HPZ.out.newer hb2); have p3' := HP2.out.cells.2.2.2.1; have HX2 := Aside0.mk ((hb2.block _ hsz1).trans HX1.out); have z2 : w2.cell? ⟨W.heap.size, 0, none⟩ = some (.pointer (some ⟨g, 0, none⟩)) := (q4 HX2.out 0).trans rfl; have HO2 := Aside0.mk (own_below4 HOV.out hb2); have HBS2 := Aside0.mk (Nat.le_trans HBS.out hb2.size); clear hR hown2 hreps hb2 hb2' hA
      try go_wp2_with fail
      refine hK.out _ _ ?_ (fun hHeld => ?_)
      · (try dsimp only); (first | exact z6 | exact z5 | exact z2 | exact z0 | assumption)
      clear hK K
      (try simp only [Act.put, List.setIfInBounds_toArray, List.set_cons_zero, List.set_cons_succ])
      refine wpAnyH_ready (rs := [8]) (by kernel_rfl) (by simp) ?_; refine AllReadyH.cons (o := { dst := some 40, op := Go.Op.call { callee := Go.Callee.builtin Go.Builtin.append, args := #[Go.Operand.tmp 36, Go.Operand.tmp 39], argTypes := #[22, 22] }, type := 22, pos := "term.go:506", after := #[{ on := 4, ground := Go.Ground.data }, { on := 7, ground := Go.Ground.data }, { on := 7, ground := Go.Ground.chain }], guard := none }) rfl (fun K hK => ?_) AllReadyH.nil; have hfl := HFL.out; refine step_append_any _ rfl _ _ 22 rfl w0.heap.size 42 i0 (.agg #[.int .i64 0, .string ⟨#[]⟩, .slice none 0 0]) 3 48 Try.underlying22 hi hz0 hz1 hz2 rfl (by decide) _ _ _ rfl HO2.out A r.length cc inner rfl HAA.out hfl.len HC2.out hfl.one (by have := HN8.out; have := HRL.out; simp only [maxLen]; omega) (by have := HN8.out; have := HRL.out; omega) HBS2.out ?_; intro v5 w5 hown5 hgrow5 hnew5
      obtain ⟨A5, c5, hv5⟩ : ∃ A5 c5, v5 = .slice A5 (l.length + r.length) c5 := by
        rcases hown5.2 with ⟨h1, h0⟩ | ⟨b, cap, cur, hv, _⟩
        · exact ⟨none, 0, by rw [h0]; exact h1⟩
        · exact ⟨_, _, hv⟩
      subst hv5
      have hgv : some g ≠ vl.ownBlock := fun e => (HVB.out g e.symm).2 rfl
      have HP5 := Aside0.mk (Pz.grown HP2.out hgrow5 hgv); have p53 := HP5.out.cells.2.2.2.1; have pf53 := HP5.out.fz 3; have HX5 := Aside0.mk ((hgrow5.block _ (Array.getElem?_eq_some_iff.1 HX2.out).1 (fun e => Nat.lt_irrefl _ (HVB.out _ e.symm).1)).trans HX2.out); have z5 : w5.cell? ⟨W.heap.size, 0, none⟩ = some (.pointer (some ⟨g, 0, none⟩)) := (q4 HX5.out 0).trans rfl; have z6 : (w5.setCell ⟨g, 3, none⟩ (.slice A5 (l.length + r.length) c5)).cell? ⟨W.heap.size, 0, none⟩ = some (.pointer (some ⟨g, 0, none⟩)) := (q4 ((Below.heap_setCell _ ⟨g, 3, none⟩ _ _ (by simp; omega)).trans HX5.out) 0).trans rfl; have HPS := Aside0.mk (HEXT.out w2 w5 _ r inner HB2.out hown5 hgrow5 hnew5 HFL.out); clear hown5 hgrow5 hnew5 hfl hgv
      try go_wp2_with fail
      refine hK.out _ _ ?_ (fun hHeld => ?_)
      · (try dsimp only); (first | exact z6 | exact z5 | exact z2 | exact z0 | assumption)
      clear hK K
      (try simp only [Act.put, List.setIfInBounds_toArray, List.set_cons_zero, List.set_cons_succ])
      refine wpAnyH_take (i := 9) (oi := { dst := some 41, op := Go.Op.nilCheck (Go.Operand.tmp 32), type := 0, pos := "term.go:506", after := #[{ on := 0, ground := Go.Ground.data }, { on := 0, ground := Go.Ground.phase }, { on := 1, ground := Go.Ground.phase }, { on := 2, ground := Go.Ground.phase }, { on := 3, ground := Go.Ground.phase }, { on := 4, ground := Go.Ground.phase }, { on := 5, ground := Go.Ground.phase }, { on := 6, ground := Go.Ground.phase }, { on := 7, ground := Go.Ground.phase }, { on := 8, ground := Go.Ground.phase }], guard := none }) (v := ?_) rfl (by kernel_rfl) (by kernel_rfl) (by kernel_rfl) (fun _ _ _ h => h) (Or.inl ⟨by rfl, ?_⟩) (by assumption) ?_; rotate_left
      · (intro w hSw; (try dsimp only at hSw); go_simp; first | done | with_reducible rfl)
      (try simp only [Act.put, List.setIfInBounds_toArray, List.set_cons_zero, List.set_cons_succ])
      refine wpAnyH_take (i := 10) (oi := { dst := some 42, op := Go.Op.fieldAddr 142 (Go.Operand.tmp 41) 3, type := 0, pos := "term.go:506", after := #[{ on := 9, ground := Go.Ground.data }, { on := 0, ground := Go.Ground.phase }, { on := 1, ground := Go.Ground.phase }, { on := 2, ground := Go.Ground.phase }, { on := 3, ground := Go.Ground.phase }, { on := 4, ground := Go.Ground.phase }, { on := 5, ground := Go.Ground.phase }, { on := 6, ground := Go.Ground.phase }, { on := 7, ground := Go.Ground.phase }, { on := 8, ground := Go.Ground.phase }], guard := none }) (v := ?_) rfl (by kernel_rfl) (by kernel_rfl) (by kernel_rfl) (fun _ _ _ h => h) (Or.inl ⟨by rfl, ?_⟩) (by assumption) ?_; rotate_left
      · (intro w hSw; (try dsimp only at hSw); go_simp; first | done | with_reducible rfl)
      (try simp only [Act.put, List.setIfInBounds_toArray, List.set_cons_zero, List.set_cons_succ])
      refine wpAnyH_ready (rs := [11]) (by kernel_rfl) (by simp) ?_; refine AllReadyH.cons (o := { dst := none, op := Go.Op.store 22 (Go.Operand.tmp 42) (Go.Operand.tmp 40), type := 0, pos := "term.go:506", after := #[{ on := 10, ground := Go.Ground.data }, { on := 8, ground := Go.Ground.data }, { on := 8, ground := Go.Ground.chain }, { on := 0, ground := Go.Ground.phase }, { on := 1, ground := Go.Ground.phase }, { on := 2, ground := Go.Ground.phase }, { on := 3, ground := Go.Ground.phase }, { on := 4, ground := Go.Ground.phase }, { on := 5, ground := Go.Ground.phase }, { on := 6, ground := Go.Ground.phase }, { on := 7, ground := Go.Ground.phase }, { on := 8, ground := Go.Ground.phase }], guard := none }) rfl (fun K hK => ?_) AllReadyH.nil; go_simp
      try go_wp2_with fail
      refine hK.out _ _ ?_ (fun hHeld => ?_)
      · (try dsimp only); (first | exact z6 | exact z5 | exact z2 | exact z0 | assumption)
      clear hK K
      (try simp only [Act.put, List.setIfInBounds_toArray, List.set_cons_zero, List.set_cons_succ])
      refine wpAnyH_done (by kernel_rfl) ?_ _
      go_wp2
      go_ret; exact ⟨rfl, HPS.out⟩
    · go_simp
      go_at_call 68
      refine (term_Chars.calls kk tx r _ HCH.out).mono ?_; rintro e w2 ⟨vc, rfl, hR, hb2'⟩; have hb2 := q12 (below_drew (Below.refl w1.heap.size w1)) hb2'; obtain ⟨inner, hown2, hreps⟩ := hR.2; have HFL := Aside0.mk (flat_of_reps r inner HK.out hreps)
      obtain ⟨A, cc, hvc, hA⟩ : ∃ A cc, vc = .slice A r.length cc ∧ (A = none → r.length = 0 ∧ cc = 0) := by
        rcases hown2.2 with ⟨h1, h0⟩ | ⟨b, cap, cur, hv, _⟩
        · exact ⟨none, 0, by rw [h0]; exact h1, fun _ => ⟨h0, rfl⟩⟩
        · exact ⟨_, _, hv, fun h => by cases h⟩
      subst hvc
      have HC2 : Aside0 (∀ ad, A = some ad → ∀ j u, inner[j]? = some u → w2.cell? (ad.add j) = some u) := ⟨by
        rcases hown2.2 with ⟨h1, h0⟩ | ⟨b, cap, cur, hv, _⟩
        · injection h1 with h1 _ _
          intro ad h; rw [h1] at h; cases h
        · intro ad h
          injection hv with h1 h2 h3
          rw [h1] at h; cases h; rw [h1] at hown2
          exact hown2.cells (g := b) rfl⟩
      have HAA := Aside0.mk hA; have HB2 := Aside0.mk hb2; have HP2 := Aside0.mk (HPZ.out.newer hb2); have p3' := HP2.out.cells.2.2.2.1; have HX2 := Aside0.mk ((hb2.block _ hsz1).trans HX1.out); have z2 : w2.cell? ⟨W.heap.size, 0, none⟩ = some (.pointer (some ⟨g, 0, none⟩)) := (q4 HX2.out 0).trans rfl; have HO2 := Aside0.mk (own_below4 HOV.out hb2); have HBS2 := Aside0.mk (Nat.le_trans HBS.out hb2.size); clear hR hown2 hreps hb2 hb2' hA
      try go_wp2_with fail
      refine hK.out _ _ ?_ (fun hHeld => ?_)
      · (try dsimp only); (first | exact z6 | exact z5 | exact z2 | exact z0 | assumption)
      clear hK K
      (try simp only [Act.put, List.setIfInBounds_toArray, List.set_cons_zero, List.set_cons_succ])
      refine wpAnyH_ready (rs := [4]) (by kernel_rfl) (by simp) ?_; refine AllReadyH.cons (o := { dst := some 36, op := Go.Op.load 22 (Go.Operand.tmp 35), type := 22, pos := "term.go:506", after := #[{ on := 3, ground := Go.Ground.data }], guard := none }) rfl (fun K hK => ?_) AllReadyH.nil; go_simp
      try go_wp2_with fail
      refine hK.out _ _ ?_ (fun hHeld => ?_)
      · (try dsimp only); (first | exact z6 | exact z5 | exact z2 | exact z0 | assumption)
      clear hK K
      (try simp only [Act.put, List.setIfInBounds_toArray, List.set_cons_zero, List.set_cons_succ])
      refine wpAnyH_ready (rs := [8]) (by kernel_rfl) (by simp) ?_; refine AllReadyH.cons (o := { dst := some 40, op := Go.Op.call { callee := Go.Callee.builtin Go.Builtin.append, args := #[Go.Operand.tmp 36, Go.Operand.tmp 39], argTypes := #[22, 22] }, type := 22, pos := "term.go:506", after := #[{ on := 4, ground := Go.Ground.data }, { on := 7, ground := Go.Ground.data }, { on := 7, ground := Go.Ground.chain }], guard := none }) rfl (fun K hK => ?_) AllReadyH.nil; have hfl := HFL.out; refine step_append_any _ rfl _ _ 22 rfl w0.heap.size 42 i0 (.agg #[.int .i64 0, .string ⟨#[]⟩, .slice none 0 0]) 3 48 Try.underlying22 hi hz0 hz1 hz2 rfl (by decide) _ _ _ rfl HO2.out A r.length cc inner rfl HAA.out hfl.len HC2.out hfl.one (by have := HN8.out; have := HRL.out; simp only [maxLen]; omega) (by have := HN8.out; have := HRL.out; omega) HBS2.out ?_; intro v5 w5 hown5 hgrow5 hnew5
      obtain ⟨A5, c5, hv5⟩ : ∃ A5 c5, v5 = .slice A5 (l.length + r.length) c5 := by
        rcases hown5.2 with ⟨h1, h0⟩ | ⟨b, cap, cur, hv, _⟩
        · exact ⟨none, 0, by rw [h0]; exact h1⟩
        · exact ⟨_, _, hv⟩
      subst hv5
      have hgv : some g ≠ vl.ownBlock := fun e => (HVB.out g e.symm).2 rfl
      have HP5 := Aside0.mk (Pz.grown HP2.out hgrow5 hgv); have p53 := HP5.out.cells.2.2.2.1; have pf53 := HP5.out.fz 3; have HX5 := Aside0.mk ((hgrow5.block _ (Array.getElem?_eq_some_iff.1 HX2.out).1 (fun e => Nat.lt_irrefl _ (HVB.out _ e.symm).1)).trans HX2.out); have z5 : w5.cell? ⟨W.heap.size, 0, none⟩ = some (.pointer (some ⟨g, 0, none⟩)) := (q4 HX5.out 0).trans rfl; have z6 : (w5.setCell ⟨g, 3, none⟩ (.slice A5 (l.length + r.length) c5)).cell? ⟨W.heap.size, 0, none⟩ = some (.pointer (some ⟨g, 0, none⟩)) := (q4 ((Below.heap_setCell _ ⟨g, 3, none⟩ _ _ (by simp; omega)).trans HX5.out) 0).trans rfl; have HPS := Aside0.mk (HEXT.out w2 w5 _ r inner HB2.out hown5 hgrow5 hnew5 HFL.out); clear hown5 hgrow5 hnew5 hfl hgv
      try go_wp2_with fail
      refine hK.out _ _ ?_ (fun hHeld => ?_)
      · (try dsimp only); (first | exact z6 | exact z5 | exact z2 | exact z0 | assumption)
      clear hK K
      (try simp only [Act.put, List.setIfInBounds_toArray, List.set_cons_zero, List.set_cons_succ])
      refine wpAnyH_take (i := 9) (oi := { dst := some 41, op := Go.Op.nilCheck (Go.Operand.tmp 32), type := 0, pos := "term.go:506", after := #[{ on := 0, ground := Go.Ground.data }, { on := 0, ground := Go.Ground.phase }, { on := 1, ground := Go.Ground.phase }, { on := 2, ground := Go.Ground.phase }, { on := 3, ground := Go.Ground.phase }, { on := 4, ground := Go.Ground.phase }, { on := 5, ground := Go.Ground.phase }, { on := 6, ground := Go.Ground.phase }, { on := 7, ground := Go.Ground.phase }, { on := 8, ground := Go.Ground.phase }], guard := none }) (v := ?_) rfl (by kernel_rfl) (by kernel_rfl) (by kernel_rfl) (fun _ _ _ h => h) (Or.inl ⟨by rfl, ?_⟩) (by assumption) ?_; rotate_left
      · (intro w hSw; (try dsimp only at hSw); go_simp; first | done | with_reducible rfl)
      (try simp only [Act.put, List.setIfInBounds_toArray, List.set_cons_zero, List.set_cons_succ])
      refine wpAnyH_take (i := 10) (oi := { dst := some 42, op := Go.Op.fieldAddr 142 (Go.Operand.tmp 41) 3, type := 0, pos := "term.go:506", after := #[{ on := 9, ground := Go.Ground.data }, { on := 0, ground := Go.Ground.phase }, { on := 1, ground := Go.Ground.phase }, { on := 2, ground := Go.Ground.phase }, { on := 3, ground := Go.Ground.phase }, { on := 4, ground := Go.Ground.phase }, { on := 5, ground := Go.Ground.phase }, { on := 6, ground := Go.Ground.phase }, { on := 7, ground := Go.Ground.phase }, { on := 8, ground := Go.Ground.phase }], guard := none }) (v := ?_) rfl (by kernel_rfl) (by kernel_rfl) (by kernel_rfl) (fun _ _ _ h => h) (Or.inl ⟨by rfl, ?_⟩) (by assumption) ?_; rotate_left
      · (intro w hSw; (try dsimp only at hSw); go_simp; first | done | with_reducible rfl)
      (try simp only [Act.put, List.setIfInBounds_toArray, List.set_cons_zero, List.set_cons_succ])
      refine wpAnyH_ready (rs := [11]) (by kernel_rfl) (by simp) ?_; refine AllReadyH.cons (o := { dst := none, op := Go.Op.store 22 (Go.Operand.tmp 42) (Go.Operand.tmp 40), type := 0, pos := "term.go:506", after := #[{ on := 10, ground := Go.Ground.data }, { on := 8, ground := Go.Ground.data }, { on := 8, ground := Go.Ground.chain }, { on := 0, ground := Go.Ground.phase }, { on := 1, ground := Go.Ground.phase }, { on := 2, ground := Go.Ground.phase }, { on := 3, ground := Go.Ground.phase }, { on := 4, ground := Go.Ground.phase }, { on := 5, ground := Go.Ground.phase }, { on := 6, ground := Go.Ground.phase }, { on := 7, ground := Go.Ground.phase }, { on := 8, ground := Go.Ground.phase }], guard := none }) rfl (fun K hK => ?_) AllReadyH.nil; go_simp
      try go_wp2_with fail
      refine hK.out _ _ ?_ (fun hHeld => ?_)
      · (try dsimp only); (first | exact z6 | exact z5 | exact z2 | exact z0 | assumption)
      clear hK K
      (try simp only [Act.put, List.setIfInBounds_toArray, List.set_cons_zero, List.set_cons_succ])
      refine wpAnyH_done (by kernel_rfl) ?_ _
      go_wp2
      go_ret; exact ⟨rfl, HPS.out⟩
end Go.Proofs.Ytjhjhhibbmligaa.TE
end
section
namespace Go.Proofs.Ytjhjhhibbmligaa.TE
open Go.RowKit Go.Shelf Go.Proofs.YtjhjhhibbmligaaW.PrintWords Go.Proofs.YtjhjhhibbmligaaW.PrintLast Go.Proofs.YtjhjhhibbmligaaW.PrintMore Go.Proofs.Ytjhjhhibbmligaa.Evs
set_option linter.unusedVariables false
set_option linter.unusedSimpArgs false
def wordQ (l : List Tm) (a : Nat) (fault : Int) (R : Bool × Nat × Option Nat × List UInt8) : Bool × Int × List Tm :=
  if R.1 = true then (if rightS (⟨2, ⟨R.2.2.2.toArray⟩, []⟩ : Tm) = true then (true, failO fault R.2.2.1, l ++ [⟨2, ⟨R.2.2.2.toArray⟩, []⟩]) else (false, failF (failO fault R.2.2.1) a, l)) else (false, failO fault R.2.2.1, l)
set_option maxRecDepth 100000 in
set_option maxHeartbeats 4000000 in
theorem PS.item_quoted {w0 W : World} {g a : Nat} {s : ByteArray} {fault : Int} {l : List Tm} {st : List Op} (h : PS w0 W g s a fault l st) (hs : s.size ≤ 1048576) (hn8 : l.length ≤ 1048576)
    (ha : a < s.size) (hc : (s[a]'ha).toNat = 34) (R : Bool × Nat × Option Nat × List UInt8) (hR : R = quoS s (s[a]'ha) (a + 1) []) :
    Calls Try.prog 120 #[.pointer (some ⟨g, 0, none⟩)] W fun e W' => e = .returned (.bool (wordQ l a fault R).1) ∧ PS w0 W' g s (R.2.1 : Nat) (wordQ l a fault R).2.1 (wordQ l a fault R).2.2 st := by
  have hbl : Below W.heap.size W (W.alloc (.cells #[.pointer (some ⟨g, 0, none⟩)] 139)) := (Below.refl _ _).alloc (Nat.le_refl _) _; have hn0 := World.alloc_heap_new W (.cells #[.pointer (some ⟨g, 0, none⟩)] 139); obtain ⟨W0, hW0⟩ : ∃ W0, W.alloc (.cells #[.pointer (some ⟨g, 0, none⟩)] 139) = W0 := ⟨_, rfl⟩; have HW0 := Aside0.mk hW0; rw [hW0] at hbl hn0; have x0 : W0.cell? ⟨W.heap.size, 0, none⟩ = some (.pointer (some ⟨g, 0, none⟩)) := (q4 hn0 0).trans rfl; have hp0 : PM W.heap.size w0 W0 g s a fault l st := h.pm.newer hbl; obtain ⟨p0, p1, p2, pf1⟩ := hp0.cells; have hgl : g < W.heap.size := h.lt; have ha0 : (0 : Int) ≤ (a : Int) := Int.natCast_nonneg _
  have ha1 : (a : Int) < (s.size : Int) := by omega
  have hbt : ((s[a]'ha).toNat : Int) = 34 := by omega
  have hlen : R.2.2.2.length ≤ 1048576 := by have := quoS_len s (s[a]'ha) _ (a + 1) [] (Nat.le_refl _); rw [← hR] at this; simp at this; omega
  have HLEN := Aside0.mk hlen; have HP0 := Aside0.mk hp0; have HBL := Aside0.mk hbl; have HN0 := Aside0.mk hn0; have HN8 := Aside0.mk hn8; have HS := Aside0.mk hs; have HA := Aside0.mk ha; have HRQ := Aside0.mk hR; obtain ⟨tx, htx⟩ : ∃ tx : ByteArray, tx = ⟨R.2.2.2.toArray⟩ := ⟨_, rfl⟩
  have hts : tx.size ≤ 1048576 := by rw [htx]; exact hlen
  have HTX := Aside0.mk htx; have HB0 := Aside0.mk (Nat.le_trans h.below.size hbl.size); clear h hn8 hp0 hbl hW0 hn0 hs hc hR hlen htx; obtain ⟨r, hri⟩ : ∃ r, r = rightS (⟨2, tx, []⟩ : Tm) := ⟨_, rfl⟩; obtain ⟨kk, hkk⟩ := (right_ev (x := (⟨2, tx, []⟩ : Tm)) (show tx.size ≤ 1099511627776 by omega)).get; rw [← hri] at hkk; obtain ⟨ok, hok⟩ : ∃ ok, ok = R.1 := ⟨_, rfl⟩; have HDEF : Aside0 (wordQ l a fault R = if ok = true then (if r = true then (true, failO fault R.2.2.1, l ++ [⟨2, tx, []⟩]) else (false, failF (failO fault R.2.2.1) a, l)) else (false, failO fault R.2.2.1, l)) := ⟨by unfold wordQ; rw [hri, HTX.out, hok]⟩; have HR := Aside0.mk hkk; have HOK := Aside0.mk hok; clear hkk hri hts hok
  go_enter Try.func120, Try.ntmps120
  go_wp2_with fail
  rw [HW0.out]
  go_quiet (fail)
  generalize nq = nq1
  go_wp2_with fail
  refine (HP0.out.drewN.quotation HS.out HA.out).mono ?_; rintro e' w1 ⟨vo, rfl, hp, hvo, hg⟩; rw [← HRQ.out] at hp hvo; rw [← HRQ.out, ← HOK.out]; have HVO := Aside0.mk hvo; have hx1 := (hg.block _ (Array.getElem?_eq_some_iff.1 HN0.out).1 (fun e => by injection e with e; omega)).trans HN0.out; have z0 : w1.cell? ⟨W.heap.size, 0, none⟩ = some (.pointer (some ⟨g, 0, none⟩)) := (q4 hx1 0).trans rfl
  have hcv : (convert 132 9 vo).run Try.prog w1 = .ok (.string tx) w1 := by have := bytes_string HVO.out 0; rw [← HTX.out] at this; exact this
  have HP1 := Aside0.mk hp; clear x0 p0 p1 p2 pf1 hp hvo hg hx1
  cases ok with
  | false =>
    have HD : Aside0 (wordQ l a fault R = (false, failO fault R.2.2.1, l)) := ⟨by rw [HDEF.out]; simp⟩
    go_wp2_with fail
    go_ret; rw [HD.out]; exact ⟨rfl, HP1.out.ps⟩
  | true =>
    go_wp2_with fail
    refine (HP1.out.add 2 tx a kk r HR.out (by have := HN8.out; omega)).mono ?_; rintro e w2 ⟨rfl, hp, _⟩; have HP2 := Aside0.mk hp; clear hp
    go_wp2_with fail
    go_ret; rw [HDEF.out]
    cases r with
    | false => exact ⟨by simp, by have := HP2.out; simpa using this⟩
    | true => exact ⟨by simp, by have := HP2.out; simpa using this⟩
end Go.Proofs.Ytjhjhhibbmligaa.TE
end
