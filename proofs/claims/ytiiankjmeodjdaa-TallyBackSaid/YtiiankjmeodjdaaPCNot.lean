/- Words on machines in plain Lean: what machine.Not and machine.Copy answer. Conditions: the machine is good. -/
import Derived.Test.YtiiankjmeodjdaaPCMachine
import Derived.Test.YtiiankjmeodjdaaGC4
namespace Go.Proofs.Ytiiankjmeodjdaa.PCM
set_option linter.unusedVariables false
set_option linter.unusedSimpArgs false
open Go.RowKit Go.Proofs.Ytiiankjmeodjdaa.GC Go.Proofs.YtiiankjmeodjdaaW.PrintWords Go.Proofs.YtiiankjmeodjdaaW.PrintLast Go.Proofs.YtiiankjmeodjdaaW.PrintMore

theorem bit_xor {f n : Int} (h0 : 0 ≤ f) (hn : 0 ≤ n) (hn7 : n ≤ 7) (hf : f < 2 ^ n.toNat) : ∃ g : Int, Go.bits .xor .u32 f (((shl .u32 1 n) - 1) % 4294967296) = g ∧ 0 ≤ g ∧ g < 2 ^ n.toNat ∧ ∀ i, 0 ≤ i → i < n → bit g i = !bit f i := by
  obtain ⟨F, rfl⟩ := Int.eq_ofNat_of_zero_le h0
  obtain ⟨m, rfl⟩ := Int.eq_ofNat_of_zero_le hn
  rw [shl_one hn (by omega), Int.toNat_natCast] at *
  have e : ((2 : Int) ^ m) = ((2 ^ m : Nat) : Int) := by simp
  have hF : F < 2 ^ m := by rw [e] at hf; exact Int.ofNat_lt.1 hf
  have hp : 0 < 2 ^ m := Nat.pow_pos (by omega)
  have hm : 2 ^ m ≤ 2 ^ 7 := Nat.pow_le_pow_right (by omega) (by omega)
  rw [e, show (((2 ^ m : Nat) : Int) - 1) = ((2 ^ m - 1 : Nat) : Int) by omega]
  rw [show ((2 ^ m - 1 : Nat) : Int) % 4294967296 = ((2 ^ m - 1 : Nat) : Int) by omega]
  rw [u32_xor_nat _ _ (by omega) (by omega)]
  refine ⟨_, rfl, Int.natCast_nonneg _, ?_, fun i hi0 hi1 => ?_⟩
  · exact Int.ofNat_lt.2 (Nat.xor_lt_two_pow hF (by omega))
  · obtain ⟨j, rfl⟩ := Int.eq_ofNat_of_zero_le hi0
    unfold bit
    rw [Int.toNat_natCast, Int.toNat_natCast, Int.toNat_natCast, Nat.testBit_xor, Nat.testBit_two_pow_sub_one, decide_eq_true (by omega : j < m), Bool.xor_true]
theorem copy_loop (nx : List (List Int)) (hl : nx.length ≤ 1000) (hr : ∀ l ∈ nx, l.length ≤ 1000) (n k st f : Int) (nx' : List (List Int)) : ∀ (d i : Nat) (x : List (List Int)), i + d = nx.length → x.length = nx.length → x.take i = nx.take i →
    Ev (fun q => machine_Copy.l0 q x nx (nx.length : Int) (i : Int) n k nx' st f) (n, k, nx, st, f) := by
  intro d
  induction d with
  | zero =>
    intro i x hi hx ht
    refine Ev.step (fun q => by rw [machine_Copy.l0]) (Ev.neg (by omega) ?_)
    rw [show x = nx by rw [List.take_of_length_le (by omega), List.take_of_length_le (by omega)] at ht; exact ht]
    exact Ev.now _
  | succ d ih =>
    intro i x hi hx ht
    have hlt : i < nx.length := by omega
    have hm : nx.getD i [] ∈ nx := getD_mem hlt
    have hl2 := hr _ hm
    have hcl : slices_Clone_int_int.f (nx.getD i []) = some (nx.getD i []) := by
      unfold slices_Clone_int_int.f
      rw [if_pos (by omega)]
    refine Ev.step (fun q => by rw [machine_Copy.l0]) (Ev.pos (by omega) (Ev.pos (by omega) (Ev.pos (by omega) ?_)))
    rw [rdL_nat]
    refine Ev.bindc hcl (Ev.pos (by omega) ?_)
    rw [w64 (n := (i : Int) + 1) (by omega) (by omega), Int.toNat_natCast]
    refine ih (i + 1) _ (by omega) (by rw [List.length_set]; exact hx) ?_
    rw [List.take_succ_eq_append_getElem (by rw [List.length_set]; omega), List.take_succ_eq_append_getElem hlt, List.getElem_set_self, List.take_set_of_le (Nat.le_refl i), ht, List.getD_eq_getElem?_getD, List.getElem?_eq_getElem hlt, Option.getD_some]
theorem not_good {n k : Int} {nx : List (List Int)} {st f : Int} (h : GoodM n k nx st f) (h0 : 0 ≤ f) (h1 : f < 4294967296) :
    ∃ g, Ev (fun q => machine_Not.f q n k nx st f) (n, k, nx, st, g, 0) ∧ 0 ≤ g ∧ g < 4294967296 ∧ GoodM n k nx st g ∧ ∀ i, 0 ≤ i → i < n → bit g i = !bit f i := by
  obtain ⟨e, he, hi⟩ := check_spec (n := n) (k := k) (nx := nx) (s := st) h0 h1
  have a1 := h.n1; have a2 := h.n7; have a3 := h.len; have a4 := h.k3
  obtain ⟨g, hg, g0, g1, g2⟩ := bit_xor h0 (by omega) a2 h.f1
  have hp : (2 : Int) ^ n.toNat ≤ 2 ^ 7 := by
    have := Nat.pow_le_pow_right (n := 2) (by omega) (show n.toNat ≤ 7 by omega)
    exact_mod_cast this
  have hc := copy_loop nx (by omega) (fun l hl => by have := h.row l hl; omega) n k st f nx nx.length 0 (List.replicate nx.length []) (by omega) (by simp) (by simp)
  refine ⟨g, Ev.congr (fun q => by rw [machine_Not.f]) (Ev.bind he (Ev.pos (hi.2 h) (Ev.bind (a := (n, k, nx, st, f)) ?_ ?_))), g0, by omega, { h with f1 := g1 }, g2⟩
  · refine Ev.congr (fun q => by rw [machine_Copy.f]) (Ev.pos (by omega) (Ev.pos (by rw [Int.toNat_natCast]; omega) ?_))
    rw [Int.toNat_natCast]
    exact hc
  · refine Ev.pos (show 0 ≤ n by omega) (Ev.val ?_)
    show some (n, k, nx, st, Go.bits .xor .u32 f _, 0) = _
    rw [hg]

end Go.Proofs.Ytiiankjmeodjdaa.PCM
