import Derived.Test.YtlopceimlipemaaRFork
import Derived.Test.YtlopceimlipemaaWNEv
import Derived.Lib.AppendZerosOnto
import Derived.Deep.LoopGhost
import Derived.WalkSpells
namespace Go.Proofs.Ytlopceimlipemaa.Rope
open Go.RowKit Go.Proofs.YtlopceimlipemaaW.PrintWords Go.Proofs.YtlopceimlipemaaW.PrintLast Go.Proofs.YtlopceimlipemaaW.PrintMore
set_option linter.unusedVariables false
set_option linter.unusedSimpArgs false

def D_int : Kd Int := Kd.int .i64
theorem info_int : (Try.prog.info? 3).map (fun i => (i.zero, i.size, i.bytes)) = some (some (Value.int .i64 0), 1, 8) := by kernel_rfl
set_option maxRecDepth 100000 in
set_option maxHeartbeats 4000000 in
/-- 'slices.Grow(nil, n)': nil, or a new row. -/
theorem grow_int.calls (n : Nat) (w : World) (hn : n * 8 ≤ 140737488355328) :
    Calls Try.prog 57 #[.slice none 0 0, .int .i64 n] w fun e w' => ∃ v, e = .returned v ∧ Kd.R D_int 3 w' w.heap.size (fun k => w.heap.size ≤ k) v [] ∧ Below w.heap.size w w' := by
  have h1 : ¬ ((n : Int) < 0) := by omega
  by_cases h0 : n = 0
  · subst h0
    go_enter Try.func57, Try.ntmps57
    go_wp2
    go_ret
    exact ⟨_, rfl, Kd.R_nil _ _ _ _ _, Below.refl _ _⟩
  · obtain ⟨i0, hi, hz0, hz1, hz2⟩ := info_parts info_int
    have hrz : ∀ ty, (Builtin.append_ #[22, 3] ty #[.slice none 0 0, .int .i64 (n : Int)]).run Try.prog w = .ok (.slice (some ⟨w.heap.size, 0, none⟩) n (grownCap w n 0 3)) (w.drew.alloc (.cells ((#[] : Array Value) ++ Builtin.zeroCells (Value.int .i64 0 : Value).cells n ++ Builtin.zeroCells (Value.int .i64 0 : Value).cells (grownCap w n 0 3 - n)) 3)) := fun ty => by
      have h := Lib.run_append_grow_zeros w 22 3 ty 3 i0 (Value.int .i64 0) .i64 .i64 Try.underlying22 Try.underlying3 hi hz0 none 0 0 [] (run_firstCells_none w.drew i0.size 0 0 0) n (by omega) (by omega) (by omega) (by omega) (by rw [hz2]; omega)
        (by rw [Nat.zero_add]; exact growslice_fits (by omega) (by rw [hz2]; omega))
      rw [Nat.zero_add] at h
      exact h
    have hG := grownCap_ge w n 0 3
    have hG63 := grownCap_le_maxLen w n 0 3 (by unfold maxLen; omega)
    obtain ⟨G, hGe⟩ : ∃ G, G = grownCap w n 0 3 := ⟨_, rfl⟩
    rw [← hGe] at hrz hG hG63
    have hG' : G ≤ 9223372036854775807 := hG63
    clear hGe
    have HG := Aside0.mk hG63
    clear hG63
    go_enter Try.func57, Try.ntmps57
    go_wp2_with (at_builtin; refine Lib.wpList_append_run _ rfl _ _ _ _ rfl _ _ rfl rfl _ _ (hrz _) ?_)
    go_ret
    refine ⟨_, rfl, ⟨fun k hk => ?_, [], ⟨rfl, .inr ⟨w.heap.size, G, _, rfl, Nat.le_refl _, heap_new w.drew _, Nat.zero_le _, HG.out, ?_, rfl⟩⟩, Reps.none _ _⟩, ((Below.refl _ w).drew).alloc (by simp) _⟩
    · simp [Value.ownBlock] at hk; omega
    · have hz : ∀ m, (Builtin.zeroCells #[Value.int .i64 0] m).size = m := fun m => by simp [Builtin.zeroCells]
      rw [Array.size_append, hz, hz]
      show n + (G - n) = G * 1
      omega

def lens {α : Type} : List (List α) → Nat
  | [] => 0
  | x :: r => x.length + lens r
theorem lens_append {α : Type} : ∀ a b : List (List α), lens (a ++ b) = lens a + lens b
  | [], b => by simp [lens]
  | x :: r, b => by simp only [List.cons_append, lens, lens_append r b]; omega
theorem lens_snoc {α : Type} (ls : List (List α)) (k : Nat) (h : k < ls.length) : lens (ls.take (k + 1)) = lens (ls.take k) + ls[k].length := by
  rw [List.take_succ_eq_append_getElem h, lens_append]; simp [lens]
theorem lens_take {α : Type} (ls : List (List α)) (k : Nat) : lens (ls.take k) ≤ lens ls := by
  have := lens_append (ls.take k) (ls.drop k)
  rw [List.take_append_drop] at this; omega
theorem flat_snoc {α : Type} (ls : List (List α)) (k : Nat) (h : k < ls.length) : (ls.take (k + 1)).flatten = (ls.take k).flatten ++ ls[k] := by
  rw [List.take_succ_eq_append_getElem h, List.flatten_append]; simp
theorem flat_lens {α : Type} : ∀ ls : List (List α), ls.flatten.length = lens ls
  | [] => rfl
  | x :: r => by simp only [List.flatten_cons, List.length_append, lens, flat_lens r]
/-- A list of the slice of slices. -/
theorem C_at {α : Type} {d : Kd α} {e : Nat} {w : World} {A : Option Addr} {ls : List (List α)} (h : (Kd.slice e d).C w A ls.length ls) (k : Nat) (hk : k < ls.length) :
    ∃ ad A2 c2, A = some ad ∧ w.cell? (ad.add k) = some (.slice A2 (ls[k]).length c2) ∧ (ls[k]).length ≤ c2 ∧ d.C w A2 (ls[k]).length ls[k] := by
  obtain ⟨ad, c, rfl, hl, ⟨A2, c2, rfl, h1, h2⟩, hc⟩ := Kd.C_get h ls[k] (k : Int) (by omega) (by omega)
  have hg : ls.getD (k : Int).toNat ls[k] = ls[k] := by simp [List.getD_eq_getElem?_getD, List.getElem?_eq_getElem hk]
  rw [hg] at h1 h2 hc
  have := hc 0 _ rfl
  rw [Int.toNat_natCast] at this
  exact ⟨ad, A2, c2, rfl, by simpa [Kd.slice] using this, h1, h2⟩
set_option maxRecDepth 100000 in
set_option maxHeartbeats 4000000 in
theorem concat_int.calls (A : Option Addr) (c : Nat) (ls : List (List Int)) (w : World) (hC : (Kd.slice 3 D_int).C w A ls.length ls) (hb : lens ls * 8 ≤ 140737488355328) :
    Calls Try.prog 27 #[.slice A ls.length c] w fun e w' => ∃ v, e = .returned v ∧ Kd.R D_int 3 w' w.heap.size (fun k => w.heap.size ≤ k) v ls.flatten ∧ Below w.heap.size w w' := by
  have hm := Kd.C_max hC
  have HC := Aside0.mk hC
  clear hC
  go_enter Try.func27, Try.ntmps27
  go_wp2
  go_loop [3, 11] (fun s i => ∃ k : Nat, k ≤ ls.length ∧ i = .int .i64 k ∧ s = .int .i64 (lens (ls.take k))) (fun _ i => ls.length - (intOf i).toNat)
  case atStart => exact ⟨0, Nat.zero_le _, rfl, rfl⟩
  case round =>
    obtain ⟨k, hk, rfl, rfl⟩ := hrel
    have hlt := lens_take ls k
    by_cases hlk : k < ls.length
    · obtain ⟨ad, A2, c2, rfl, hcell, hl2, hC2⟩ := C_at HC.out k hlk
      have hsn := Aside0.mk (lens_snoc ls k hlk)
      have hlt2 := lens_take ls (k + 1)
      rw [hsn.out] at hlt2
      obtain ⟨m, hm2⟩ : ∃ m, (ls[k]).length = m := ⟨_, rfl⟩
      rw [hm2] at hcell hlt2
      have HM := Aside0.mk hm2
      clear hm2 hC2 hl2
      go_wp2
      go_round
      case rel => exact ⟨k + 1, by omega, by go_num, by rw [hsn.out, HM.out]; go_num⟩
      case measure => simp [intOf]; omega
    · obtain rfl : k = ls.length := by omega
      rw [List.take_length] at *
      go_wp2_with (go_at_call 57; with_reducible refine (grow_int.calls (lens ls) _ hb).mono ?_; rintro e w1 ⟨v, rfl, hR, hB⟩; have HR := Aside0.mk hR; have HB := Aside0.mk hB; clear hR hB)
      have hn0 : ∀ (b : Value), b = v → True := fun _ _ => trivial
      go_loopw [6, 27] (fun u i wr => ∃ k : Nat, k ≤ ls.length ∧ i = .int .i64 k ∧ Aside0 (Kd.R D_int 3 wr w.heap.size (fun k => w.heap.size ≤ k) u (ls.take k).flatten) ∧ Aside0 (Below w.heap.size w wr)) (fun _ i _ => ls.length - (intOf i).toNat)
      case atStart => exact ⟨0, Nat.zero_le _, rfl, HR, HB⟩
      case round =>
        clear HR HB hn0
        obtain ⟨k, hk, rfl, HR, HB⟩ := hrel
        have hlt := lens_take ls k
        by_cases hlk : k < ls.length
        · obtain ⟨ad, A2, c2, rfl, hcell, hl2, hC2⟩ := C_at HC.out k hlk
          replace hcell := pw_cell_below HB.out hcell
          have HC2 := Aside0.mk (Kd.C_below hC2 HB.out)
          have hsn := Aside0.mk (lens_snoc ls k hlk)
          have hfs := Aside0.mk (flat_snoc ls k hlk)
          have hlt2 := lens_take ls (k + 1)
          rw [hsn.out] at hlt2
          have hfl := flat_lens (ls.take k)
          obtain ⟨m, hm2⟩ : ∃ m, (ls[k]).length = m := ⟨_, rfl⟩
          rw [hm2] at hcell hlt2 hl2 HC2
          have HL : Aside0 (((ls.take k).flatten.length + m) * 8 ≤ 140737488355328) := ⟨by rw [hfl]; omega⟩
          clear hm2 hC2 hfl hlt2 hlt
          go_wp2_with ((with_reducible refine gate_builtin (b := .append) (xs := #[.tmp 31, .tmp 32]) rfl ?_); at_builtin; refine Kd.R_append_rows D_int (w0 := w) w.heap.size rfl (.tmp 31) (.tmp 32) 22 3 (Value.int .i64 0) 8 rfl Try.underlying22 info_int rfl (by decide) (by decide) _ ((ls.take k).flatten) (ls[k]) A2 m c2 (fun k => w.heap.size ≤ k) (fun _ => False) rfl rfl HR.out HC2.out (fun x cs h => h) (fun _ h => h.elim) (fun k h => Nat.le_trans HB.out.size h) HB.out HB.out.size HL.out ?_; intro v1 w2 ho hb2 hg hat; have HO := Aside0.mk ho; have HB2 := Aside0.mk hb2; clear ho hb2 hg hat)
          go_roundw
          case rel => exact ⟨k + 1, by omega, by go_num, by rw [hfs.out]; exact HO, HB2⟩
          case measure => simp [intOf]; omega
        · obtain rfl : k = ls.length := by omega
          rw [List.take_length] at HR
          go_wp2
          go_ret
          exact ⟨_, rfl, HR.out, HB.out⟩

end Go.Proofs.Ytlopceimlipemaa.Rope

namespace Go.Proofs.Ytlopceimlipemaa.Rope
open Go.RowKit Go.Proofs.YtlopceimlipemaaW.PrintWords Go.Proofs.YtlopceimlipemaaW.PrintLast Go.Proofs.YtlopceimlipemaaW.PrintMore
set_option linter.unusedVariables false
set_option linter.unusedSimpArgs false

def D_string : Kd ByteArray := Kd.string
theorem info_string : (Try.prog.info? 9).map (fun i => (i.zero, i.size, i.bytes)) = some (some (Value.string ⟨#[]⟩), 1, 16) := by kernel_rfl
set_option maxRecDepth 100000 in
set_option maxHeartbeats 4000000 in
/-- 'slices.Grow(nil, n)': nil, or a new row. -/
theorem grow_string.calls (n : Nat) (w : World) (hn : n * 16 ≤ 140737488355328) :
    Calls Try.prog 84 #[.slice none 0 0, .int .i64 n] w fun e w' => ∃ v, e = .returned v ∧ Kd.R D_string 9 w' w.heap.size (fun k => w.heap.size ≤ k) v [] ∧ Below w.heap.size w w' := by
  have h1 : ¬ ((n : Int) < 0) := by omega
  by_cases h0 : n = 0
  · subst h0
    go_enter Try.func84, Try.ntmps84
    go_wp2
    go_ret
    exact ⟨_, rfl, Kd.R_nil _ _ _ _ _, Below.refl _ _⟩
  · obtain ⟨i0, hi, hz0, hz1, hz2⟩ := info_parts info_string
    have hrz : ∀ ty, (Builtin.append_ #[76, 3] ty #[.slice none 0 0, .int .i64 (n : Int)]).run Try.prog w = .ok (.slice (some ⟨w.heap.size, 0, none⟩) n (grownCap w n 0 9)) (w.drew.alloc (.cells ((#[] : Array Value) ++ Builtin.zeroCells (Value.string ⟨#[]⟩ : Value).cells n ++ Builtin.zeroCells (Value.string ⟨#[]⟩ : Value).cells (grownCap w n 0 9 - n)) 9)) := fun ty => by
      have h := Lib.run_append_grow_zeros w 76 3 ty 9 i0 (Value.string ⟨#[]⟩) .i64 .i64 Try.underlying76 Try.underlying3 hi hz0 none 0 0 [] (run_firstCells_none w.drew i0.size 0 0 0) n (by omega) (by omega) (by omega) (by omega) (by rw [hz2]; omega)
        (by rw [Nat.zero_add]; exact growslice_fits (by omega) (by rw [hz2]; omega))
      rw [Nat.zero_add] at h
      exact h
    have hG := grownCap_ge w n 0 9
    have hG63 := grownCap_le_maxLen w n 0 9 (by unfold maxLen; omega)
    obtain ⟨G, hGe⟩ : ∃ G, G = grownCap w n 0 9 := ⟨_, rfl⟩
    rw [← hGe] at hrz hG hG63
    have hG' : G ≤ 9223372036854775807 := hG63
    clear hGe
    have HG := Aside0.mk hG63
    clear hG63
    go_enter Try.func84, Try.ntmps84
    go_wp2_with (at_builtin; refine Lib.wpList_append_run _ rfl _ _ _ _ rfl _ _ rfl rfl _ _ (hrz _) ?_)
    go_ret
    refine ⟨_, rfl, ⟨fun k hk => ?_, [], ⟨rfl, .inr ⟨w.heap.size, G, _, rfl, Nat.le_refl _, heap_new w.drew _, Nat.zero_le _, HG.out, ?_, rfl⟩⟩, Reps.none _ _⟩, ((Below.refl _ w).drew).alloc (by simp) _⟩
    · simp [Value.ownBlock] at hk; omega
    · have hz : ∀ m, (Builtin.zeroCells #[Value.string ⟨#[]⟩] m).size = m := fun m => by simp [Builtin.zeroCells]
      rw [Array.size_append, hz, hz]
      show n + (G - n) = G * 1
      omega

def lens_string {α : Type} : List (List α) → Nat
  | [] => 0
  | x :: r => x.length + lens_string r
theorem lens_append_string {α : Type} : ∀ a b : List (List α), lens_string (a ++ b) = lens_string a + lens_string b
  | [], b => by simp [lens_string]
  | x :: r, b => by simp only [List.cons_append, lens_string, lens_append_string r b]; omega
theorem lens_snoc_string {α : Type} (ls : List (List α)) (k : Nat) (h : k < ls.length) : lens_string (ls.take (k + 1)) = lens_string (ls.take k) + ls[k].length := by
  rw [List.take_succ_eq_append_getElem h, lens_append_string]; simp [lens_string]
theorem lens_take_string {α : Type} (ls : List (List α)) (k : Nat) : lens_string (ls.take k) ≤ lens_string ls := by
  have := lens_append_string (ls.take k) (ls.drop k)
  rw [List.take_append_drop] at this; omega
theorem flat_snoc_string {α : Type} (ls : List (List α)) (k : Nat) (h : k < ls.length) : (ls.take (k + 1)).flatten = (ls.take k).flatten ++ ls[k] := by
  rw [List.take_succ_eq_append_getElem h, List.flatten_append]; simp
theorem flat_lens_string {α : Type} : ∀ ls : List (List α), ls.flatten.length = lens_string ls
  | [] => rfl
  | x :: r => by simp only [List.flatten_cons, List.length_append, lens_string, flat_lens_string r]
/-- A list of the slice of slices. -/
theorem C_at_string {α : Type} {d : Kd α} {e : Nat} {w : World} {A : Option Addr} {ls : List (List α)} (h : (Kd.slice e d).C w A ls.length ls) (k : Nat) (hk : k < ls.length) :
    ∃ ad A2 c2, A = some ad ∧ w.cell? (ad.add k) = some (.slice A2 (ls[k]).length c2) ∧ (ls[k]).length ≤ c2 ∧ d.C w A2 (ls[k]).length ls[k] := by
  obtain ⟨ad, c, rfl, hl, ⟨A2, c2, rfl, h1, h2⟩, hc⟩ := Kd.C_get h ls[k] (k : Int) (by omega) (by omega)
  have hg : ls.getD (k : Int).toNat ls[k] = ls[k] := by simp [List.getD_eq_getElem?_getD, List.getElem?_eq_getElem hk]
  rw [hg] at h1 h2 hc
  have := hc 0 _ rfl
  rw [Int.toNat_natCast] at this
  exact ⟨ad, A2, c2, rfl, by simpa [Kd.slice] using this, h1, h2⟩
set_option maxRecDepth 100000 in
set_option maxHeartbeats 4000000 in
theorem concat_string.calls (A : Option Addr) (c : Nat) (ls : List (List ByteArray)) (w : World) (hC : (Kd.slice 9 D_string).C w A ls.length ls) (hb : lens_string ls * 16 ≤ 140737488355328) :
    Calls Try.prog 77 #[.slice A ls.length c] w fun e w' => ∃ v, e = .returned v ∧ Kd.R D_string 9 w' w.heap.size (fun k => w.heap.size ≤ k) v ls.flatten ∧ Below w.heap.size w w' := by
  have hm := Kd.C_max hC
  have HC := Aside0.mk hC
  clear hC
  go_enter Try.func77, Try.ntmps77
  go_wp2
  go_loop [3, 11] (fun s i => ∃ k : Nat, k ≤ ls.length ∧ i = .int .i64 k ∧ s = .int .i64 (lens_string (ls.take k))) (fun _ i => ls.length - (intOf i).toNat)
  case atStart => exact ⟨0, Nat.zero_le _, rfl, rfl⟩
  case round =>
    obtain ⟨k, hk, rfl, rfl⟩ := hrel
    have hlt := lens_take_string ls k
    by_cases hlk : k < ls.length
    · obtain ⟨ad, A2, c2, rfl, hcell, hl2, hC2⟩ := C_at_string HC.out k hlk
      have hsn := Aside0.mk (lens_snoc_string ls k hlk)
      have hlt2 := lens_take_string ls (k + 1)
      rw [hsn.out] at hlt2
      obtain ⟨m, hm2⟩ : ∃ m, (ls[k]).length = m := ⟨_, rfl⟩
      rw [hm2] at hcell hlt2
      have HM := Aside0.mk hm2
      clear hm2 hC2 hl2
      go_wp2
      go_round
      case rel => exact ⟨k + 1, by omega, by go_num, by rw [hsn.out, HM.out]; go_num⟩
      case measure => simp [intOf]; omega
    · obtain rfl : k = ls.length := by omega
      rw [List.take_length] at *
      go_wp2_with (go_at_call 84; with_reducible refine (grow_string.calls (lens_string ls) _ hb).mono ?_; rintro e w1 ⟨v, rfl, hR, hB⟩; have HR := Aside0.mk hR; have HB := Aside0.mk hB; clear hR hB)
      have hn0 : ∀ (b : Value), b = v → True := fun _ _ => trivial
      go_loopw [6, 27] (fun u i wr => ∃ k : Nat, k ≤ ls.length ∧ i = .int .i64 k ∧ Aside0 (Kd.R D_string 9 wr w.heap.size (fun k => w.heap.size ≤ k) u (ls.take k).flatten) ∧ Aside0 (Below w.heap.size w wr)) (fun _ i _ => ls.length - (intOf i).toNat)
      case atStart => exact ⟨0, Nat.zero_le _, rfl, HR, HB⟩
      case round =>
        clear HR HB hn0
        obtain ⟨k, hk, rfl, HR, HB⟩ := hrel
        have hlt := lens_take_string ls k
        by_cases hlk : k < ls.length
        · obtain ⟨ad, A2, c2, rfl, hcell, hl2, hC2⟩ := C_at_string HC.out k hlk
          replace hcell := pw_cell_below HB.out hcell
          have HC2 := Aside0.mk (Kd.C_below hC2 HB.out)
          have hsn := Aside0.mk (lens_snoc_string ls k hlk)
          have hfs := Aside0.mk (flat_snoc_string ls k hlk)
          have hlt2 := lens_take_string ls (k + 1)
          rw [hsn.out] at hlt2
          have hfl := flat_lens_string (ls.take k)
          obtain ⟨m, hm2⟩ : ∃ m, (ls[k]).length = m := ⟨_, rfl⟩
          rw [hm2] at hcell hlt2 hl2 HC2
          have HL : Aside0 (((ls.take k).flatten.length + m) * 16 ≤ 140737488355328) := ⟨by rw [hfl]; omega⟩
          clear hm2 hC2 hfl hlt2 hlt
          go_wp2_with ((with_reducible refine gate_builtin (b := .append) (xs := #[.tmp 31, .tmp 32]) rfl ?_); at_builtin; refine Kd.R_append_rows D_string (w0 := w) w.heap.size rfl (.tmp 31) (.tmp 32) 76 9 (Value.string ⟨#[]⟩) 16 rfl Try.underlying76 info_string rfl (by decide) (by decide) _ ((ls.take k).flatten) (ls[k]) A2 m c2 (fun k => w.heap.size ≤ k) (fun _ => False) rfl rfl HR.out HC2.out (fun x cs h => h) (fun _ h => h.elim) (fun k h => Nat.le_trans HB.out.size h) HB.out HB.out.size HL.out ?_; intro v1 w2 ho hb2 hg hat; have HO := Aside0.mk ho; have HB2 := Aside0.mk hb2; clear ho hb2 hg hat)
          go_roundw
          case rel => exact ⟨k + 1, by omega, by go_num, by rw [hfs.out]; exact HO, HB2⟩
          case measure => simp [intOf]; omega
        · obtain rfl : k = ls.length := by omega
          rw [List.take_length] at HR
          go_wp2
          go_ret
          exact ⟨_, rfl, HR.out, HB.out⟩

end Go.Proofs.Ytlopceimlipemaa.Rope
