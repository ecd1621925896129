/- Words on machines in plain Lean: what machine.Not, machine.Copy and machine.Pairs answer. Conditions: the machines are good. -/
import Derived.Test.YtiiankjmeodjdaaPAMachine
import Derived.Test.YtiiankjmeodjdaaGA9
import Derived.Test.YtiiankjmeodjdaaGA10
import Derived.Test.YtiiankjmeodjdaaGA11
namespace Go.Proofs.Ytiiankjmeodjdaa.PAM
set_option linter.unusedVariables false
set_option linter.unusedSimpArgs false
open Go.RowKit Go.Proofs.Ytiiankjmeodjdaa.GA Go.Proofs.YtiiankjmeodjdaaW.PrintWords Go.Proofs.YtiiankjmeodjdaaW.PrintLast Go.Proofs.YtiiankjmeodjdaaW.PrintMore

theorem bit_xor {f n : Int} (h0 : 0 ≤ f) (hn : 0 ≤ n) (hn7 : n ≤ 7) (hf : f < 2 ^ n.toNat) : ∃ g : Int, Go.bits .xor .u32 f (((shl .u32 1 n) - 1) % 4294967296) = g ∧ 0 ≤ g ∧ g < 2 ^ n.toNat ∧ ∀ i, 0 ≤ i → i < n → bit g i = !bit f i := by
  obtain ⟨F, rfl⟩ := Int.eq_ofNat_of_zero_le h0
  obtain ⟨m, rfl⟩ := Int.eq_ofNat_of_zero_le hn
  rw [shl_one hn (by omega), Int.toNat_natCast] at *
  have e : ((2 : Int) ^ m) = ((2 ^ m : Nat) : Int) := by simp
  have hF : F < 2 ^ m := by rw [e] at hf; exact Int.ofNat_lt.1 hf
  have hp : 0 < 2 ^ m := Nat.pow_pos (by omega)
  have hm : 2 ^ m ≤ 2 ^ 7 := Nat.pow_le_pow_right (by omega) (by omega)
  rw [e, show (((2 ^ m : Nat) : Int) - 1) = ((2 ^ m - 1 : Nat) : Int) by omega]
  rw [show ((2 ^ m - 1 : Nat) : Int) % 4294967296 = ((2 ^ m - 1 : Nat) : Int) by omega]
  rw [u32_xor_nat _ _ (by omega) (by omega)]
  refine ⟨_, rfl, Int.natCast_nonneg _, ?_, fun i hi0 hi1 => ?_⟩
  · exact Int.ofNat_lt.2 (Nat.xor_lt_two_pow hF (by omega))
  · obtain ⟨j, rfl⟩ := Int.eq_ofNat_of_zero_le hi0
    unfold bit
    rw [Int.toNat_natCast, Int.toNat_natCast, Int.toNat_natCast, Nat.testBit_xor, Nat.testBit_two_pow_sub_one, decide_eq_true (by omega : j < m), Bool.xor_true]
theorem copy_loop (nx : List (List Int)) (hl : nx.length ≤ 1000) (hr : ∀ l ∈ nx, l.length ≤ 1000) (n k st f : Int) (nx' : List (List Int)) : ∀ (d i : Nat) (x : List (List Int)), i + d = nx.length → x.length = nx.length → x.take i = nx.take i →
    Ev (fun q => machine_Copy.l0 q x nx (nx.length : Int) (i : Int) n k nx' st f) (n, k, nx, st, f) := by
  intro d
  induction d with
  | zero =>
    intro i x hi hx ht
    refine Ev.step (fun q => by rw [machine_Copy.l0]) (Ev.neg (by omega) ?_)
    rw [show x = nx by rw [List.take_of_length_le (by omega), List.take_of_length_le (by omega)] at ht; exact ht]
    exact Ev.now _
  | succ d ih =>
    intro i x hi hx ht
    have hlt : i < nx.length := by omega
    have hm : nx.getD i [] ∈ nx := getD_mem hlt
    have hl2 := hr _ hm
    have hcl : slices_Clone_int_int.f (nx.getD i []) = some (nx.getD i []) := by
      unfold slices_Clone_int_int.f
      rw [if_pos (by omega)]
    refine Ev.step (fun q => by rw [machine_Copy.l0]) (Ev.pos (by omega) (Ev.pos (by omega) (Ev.pos (by omega) ?_)))
    rw [rdL_nat]
    refine Ev.bindc hcl (Ev.pos (by omega) ?_)
    rw [w64 (n := (i : Int) + 1) (by omega) (by omega), Int.toNat_natCast]
    refine ih (i + 1) _ (by omega) (by rw [List.length_set]; exact hx) ?_
    rw [List.take_succ_eq_append_getElem (by rw [List.length_set]; omega), List.take_succ_eq_append_getElem hlt, List.getElem_set_self, List.take_set_of_le (Nat.le_refl i), ht, List.getD_eq_getElem?_getD, List.getElem?_eq_getElem hlt, Option.getD_some]
theorem not_good {n k : Int} {nx : List (List Int)} {st f : Int} (h : GoodM n k nx st f) (h0 : 0 ≤ f) (h1 : f < 4294967296) :
    ∃ g, Ev (fun q => machine_Not.f q n k nx st f) (n, k, nx, st, g, 0) ∧ 0 ≤ g ∧ g < 4294967296 ∧ GoodM n k nx st g ∧ ∀ i, 0 ≤ i → i < n → bit g i = !bit f i := by
  obtain ⟨e, he, hi⟩ := check_spec (n := n) (k := k) (nx := nx) (s := st) h0 h1
  have a1 := h.n1; have a2 := h.n7; have a3 := h.len; have a4 := h.k3
  obtain ⟨g, hg, g0, g1, g2⟩ := bit_xor h0 (by omega) a2 h.f1
  have hp : (2 : Int) ^ n.toNat ≤ 2 ^ 7 := by
    have := Nat.pow_le_pow_right (n := 2) (by omega) (show n.toNat ≤ 7 by omega)
    exact_mod_cast this
  have hc := copy_loop nx (by omega) (fun l hl => by have := h.row l hl; omega) n k st f nx nx.length 0 (List.replicate nx.length []) (by omega) (by simp) (by simp)
  refine ⟨g, Ev.congr (fun q => by rw [machine_Not.f]) (Ev.bind he (Ev.pos (hi.2 h) (Ev.bind (a := (n, k, nx, st, f)) ?_ ?_))), g0, by omega, { h with f1 := g1 }, g2⟩
  · refine Ev.congr (fun q => by rw [machine_Copy.f]) (Ev.pos (by omega) (Ev.pos (by rw [Int.toNat_natCast]; omega) ?_))
    rw [Int.toNat_natCast]
    exact hc
  · refine Ev.pos (show 0 ≤ n by omega) (Ev.val ?_)
    show some (n, k, nx, st, Go.bits .xor .u32 f _, 0) = _
    rw [hg]

/-- A row of pairs. -/
def rowP (nxa nxb : List (List Int)) (bn : Nat) (kn i j : Nat) : List Int := (List.range kn).map fun s : Nat => stepM nxa i s * bn + stepM nxb j s
/-- What stands after c rows. -/
def PairsInv (nxa nxb : List (List Int)) (fa fb : Int) (bn kn c : Nat) (rows : List (List Int)) (F : Nat) : Prop :=
  rows.length = c ∧ (∀ p, p < c → rows.getD p [] = rowP nxa nxb bn kn (p / bn) (p % bn)) ∧ F < 2 ^ c ∧ ∀ p, F.testBit p = (decide (p < c) && (bit fa (p / bn : Nat) && bit fb (p % bn : Nat)))
theorem pairs_step {nxa nxb : List (List Int)} {fa fb : Int} {bn kn c : Nat} {rows : List (List Int)} {F : Nat} (h : PairsInv nxa nxb fa fb bn kn c rows F) :
    PairsInv nxa nxb fa fb bn kn (c + 1) (rows ++ [rowP nxa nxb bn kn (c / bn) (c % bn)]) (if (bit fa (c / bn : Nat) && bit fb (c % bn : Nat)) = true then F ||| 2 ^ c else F) := by
  obtain ⟨h1, h2, h3, h4⟩ := h
  refine ⟨by simp [h1], fun p hp => ?_, ?_, fun p => ?_⟩
  · rcases Nat.lt_or_ge p c with hc | hc
    · rw [← h2 p hc, List.getD_eq_getElem?_getD, List.getElem?_append_left (by omega), List.getD_eq_getElem?_getD]
    · obtain rfl : p = c := by omega
      rw [List.getD_eq_getElem?_getD, List.getElem?_append_right (by omega), h1]
      simp
  · have h5 : 2 ^ c < 2 ^ (c + 1) := Nat.pow_lt_pow_right (by omega) (by omega)
    split
    · exact Nat.or_lt_two_pow (Nat.lt_trans h3 h5) h5
    · exact Nat.lt_trans h3 h5
  · have h6 : F.testBit p = (decide (p < c) && (bit fa (p / bn : Nat) && bit fb (p % bn : Nat))) := h4 p
    by_cases hb : (bit fa (c / bn : Nat) && bit fb (c % bn : Nat)) = true
    · rw [if_pos hb, Nat.testBit_or, h6, Nat.testBit_two_pow]
      by_cases e : c = p
      · subst e; rw [hb]; simp
      · by_cases hc : p < c
        · rw [decide_eq_true hc, decide_eq_false e, decide_eq_true (by omega : p < c + 1)]; simp
        · rw [decide_eq_false hc, decide_eq_false e, decide_eq_false (by omega : ¬ p < c + 1)]; simp
    · rw [if_neg hb, h6]
      by_cases e : c = p
      · subst e; rw [Bool.eq_false_iff.2 hb]; simp
      · by_cases hc : p < c
        · rw [decide_eq_true hc, decide_eq_true (by omega : p < c + 1)]
        · rw [decide_eq_false hc, decide_eq_false (by omega : ¬ p < c + 1)]

theorem pairs_l2 {bn kn : Nat} {an as_ fa st2 fb N' K' S' F' : Int} {nxa nxb rows : List (List Int)} {ak bk : Int} (hk3 : kn ≤ 3) (i j : Nat) (ha : i < nxa.length) (hb : j < nxb.length) (hra : (nxa.getD i []).length = kn) (hrb : (nxb.getD j []).length = kn)
    (hva : ∀ s, s < kn → 0 ≤ stepM nxa i s ∧ stepM nxa i s < 8) (hvb : ∀ s, s < kn → 0 ≤ stepM nxb j s ∧ stepM nxb j s < 8) (hbn : bn ≤ 7) (x27 x28 x32 x33 : Int) {r : Int × Int × List (List Int) × Int × Int} : ∀ (d s : Nat) (acc : List Int), s + d = kn → acc.length = s →
    Ev (fun q => machine_Pairs.l2 q (i : Int) (j : Int) (acc ++ (List.range' s d).map fun t : Nat => stepM nxa i t * bn + stepM nxb j t) x27 x28 x32 x33 (kn : Int) (kn : Int) an ak nxa as_ fa (bn : Int) bk nxb st2 fb N' K' rows S' F') r →
    Ev (fun q => machine_Pairs.l2 q (i : Int) (j : Int) acc x27 x28 x32 x33 (kn : Int) (s : Int) an ak nxa as_ fa (bn : Int) bk nxb st2 fb N' K' rows S' F') r := by
  intro d
  induction d with
  | zero =>
    intro s acc hs hl h
    obtain rfl : s = kn := by omega
    simpa using h
  | succ d ih =>
    intro s acc hs hl h
    have h1 := hva s (by omega)
    have h2 := hvb s (by omega)
    have h3 : 0 ≤ stepM nxa i s * (bn : Int) ∧ stepM nxa i s * (bn : Int) ≤ 49 := by
      have a : stepM nxa i s * (bn : Int) ≤ 7 * 7 := Int.mul_le_mul (by omega) (by omega) (by omega) (by omega)
      exact ⟨Int.mul_nonneg h1.1 (by omega), by omega⟩
    refine Ev.step (fun q => by rw [machine_Pairs.l2]) (Ev.pos (by omega) (Ev.pos (by omega) (Ev.pos (by omega) (Ev.pos (by omega) ?_))))
    rw [rdL_nat, rdL_nat]
    refine Ev.pos (by omega) (Ev.pos (by omega) (Ev.pos (by omega) (Ev.pos (by omega) (Ev.pos (by omega) ?_))))
    rw [show rd (nxa.getD i []) (s : Int) = stepM nxa i s from rfl, show rd (nxb.getD j []) (s : Int) = stepM nxb j s from rfl, w64 (n := (s : Int) + 1) (by omega) (by omega), w64 (n := stepM nxa i s * (bn : Int)) (by omega) (by omega), w64 (by omega) (by omega)]
    refine ih (s + 1) _ (by omega) (by simp [hl]) ?_
    rw [List.range'_succ, List.map_cons] at h
    rw [List.append_assoc]
    exact h
/-- The rows, and the states that take, behind c pairs. -/
def rowsAt (nxa nxb : List (List Int)) (bn kn : Nat) : Nat → List (List Int)
  | 0 => []
  | c + 1 => rowsAt nxa nxb bn kn c ++ [rowP nxa nxb bn kn (c / bn) (c % bn)]
def finAt (fa fb : Int) (bn : Nat) : Nat → Nat
  | 0 => 0
  | c + 1 => if (bit fa (c / bn : Nat) && bit fb (c % bn : Nat)) = true then finAt fa fb bn c ||| 2 ^ c else finAt fa fb bn c
theorem at_inv (nxa nxb : List (List Int)) (fa fb : Int) (bn kn : Nat) : ∀ c, PairsInv nxa nxb fa fb bn kn c (rowsAt nxa nxb bn kn c) (finAt fa fb bn c)
  | 0 => ⟨rfl, fun p hp => absurd hp (Nat.not_lt_zero _), by simp [finAt], fun p => by simp [finAt]⟩
  | c + 1 => pairs_step (at_inv nxa nxb fa fb bn kn c)
theorem pairs_l1 {an ak sa fa bn bk sb fb : Int} {nxa nxb : List (List Int)} (ga : GoodM an ak nxa sa fa) (gb : GoodM bn bk nxb sb fb) (hk : ak = bk) (a0 : 0 ≤ fa) (a1 : fa < 4294967296) (b0 : 0 ≤ fb) (b1 : fb < 4294967296) (hn : an * bn ≤ 7) (N' K' S' : Int) (i : Nat) (hi : (i : Int) < an) {r : Int × Int × List (List Int) × Int × Int} (h : Ev (fun q => machine_Pairs.l0 q an (wrap64 ((i : Int) + 1)) an ak nxa sa fa bn bk nxb sb fb N' K' (rowsAt nxa nxb bn.toNat ak.toNat ((i + 1) * bn.toNat)) S' (finAt fa fb bn.toNat ((i + 1) * bn.toNat) : Int)) r) : ∀ (d j : Nat), (j : Int) + d = bn →
    Ev (fun q => machine_Pairs.l1 q (i : Int) an (i : Int) bn (j : Int) an ak nxa sa fa bn bk nxb sb fb N' K' (rowsAt nxa nxb bn.toNat ak.toNat (i * bn.toNat + j)) S' (finAt fa fb bn.toNat (i * bn.toNat + j) : Int)) r := by
  have q1 := ga.n1; have q2 := ga.n7; have q3 := ga.k1; have q4 := ga.k3; have q5 := ga.len; have q6 := gb.n1; have q7 := gb.n7; have q8 := gb.len
  obtain ⟨BN, rfl⟩ := Int.eq_ofNat_of_zero_le (show 0 ≤ bn by omega)
  obtain ⟨KN, rfl⟩ := Int.eq_ofNat_of_zero_le (show 0 ≤ ak by omega)
  subst hk
  simp only [Int.toNat_natCast] at h ⊢
  intro d
  induction d with
  | zero =>
    intro j hj
    obtain rfl : j = BN := by omega
    refine Ev.step (fun q => by rw [machine_Pairs.l1]) (Ev.neg (by omega) ?_)
    rw [Nat.succ_mul] at h
    exact h
  | succ d ih =>
    intro j hj
    have hjl : j < BN := by omega
    have ma : nxa.getD i [] ∈ nxa := getD_mem (by omega)
    have mb : nxb.getD j [] ∈ nxb := getD_mem (by omega)
    have ra := ga.row _ ma
    have rb := gb.row _ mb
    have hc : i * BN + j < 7 := by
      have : (i * BN + BN : Nat) ≤ 7 := by
        have h1 : ((i : Int) + 1) * BN ≤ an * BN := Int.mul_le_mul_of_nonneg_right (by omega) (by omega)
        have h2 : (((i + 1) * BN : Nat) : Int) ≤ 7 := by push_cast; omega
        rw [Nat.succ_mul] at h2
        exact_mod_cast h2
      omega
    have hinv := at_inv nxa nxb fa fb BN KN (i * BN + j)
    have hrl := hinv.1
    refine Ev.step (fun q => by rw [machine_Pairs.l1]) (Ev.pos (by omega) ?_)
    refine pairs_l2 (bn := BN) (kn := KN) (by omega) i j (by omega) (by omega) (by omega) (by omega) (fun s hs => by have := stepM_in ga (a := i) (s := s) (by omega) (by omega); omega) (fun s hs => by have := stepM_in gb (a := j) (s := s) (by omega) (by omega); omega) (by omega) _ _ _ _ KN 0 [] (by omega) rfl ?_
    rw [List.nil_append, show (List.range' 0 KN).map (fun t : Nat => stepM nxa i t * (BN : Int) + stepM nxb j t) = rowP nxa nxb BN KN i j by rw [rowP, List.range_eq_range']]
    have e1 : (i * BN + j) / BN = i := by rw [Nat.mul_comm, Nat.mul_add_div (by omega), Nat.div_eq_of_lt hjl, Nat.add_zero]
    have e2 : (i * BN + j) % BN = j := by rw [Nat.mul_comm, Nat.mul_add_mod, Nat.mod_eq_of_lt hjl]
    have hnext := ih (j + 1) (by omega)
    rw [show i * BN + (j + 1) = i * BN + j + 1 from rfl, rowsAt, finAt, e1, e2] at hnext
    have hF := hinv.2.2.1
    generalize rowsAt nxa nxb BN KN (i * BN + j) = rows at *
    generalize finAt fa fb BN (i * BN + j) = F at *
    refine Ev.step (fun q => by rw [machine_Pairs.l2]) (Ev.neg (by omega) ?_)
    refine Ev.pos (by omega) ?_
    refine Ev.let_ ?_
    refine Ev.pos (by omega) ?_
    rw [shr_bit a0 a1 (by omega), shr_bit b0 b1 (by omega)]
    rw [show wrap64 ((j : Int) + 1) = ((j + 1 : Nat) : Int) by rw [w64 (by omega) (by omega)]; omega]
    by_cases ba : bit fa (i : Nat) = true
    · rw [if_pos ba]
      refine Ev.pos rfl (Ev.pos (by omega) ?_)
      by_cases bb : bit fb (j : Nat) = true
      · rw [if_pos bb]
        refine Ev.pos rfl ?_
        rw [← Int.natCast_mul, w64 (n := ((i * BN : Nat) : Int)) (by omega) (by omega), ← Int.natCast_add, w64 (n := ((i * BN + j : Nat) : Int)) (by omega) (by omega)]
        refine Ev.pos (by omega) ?_
        rw [shl_one (by omega) (by omega), Int.toNat_natCast]
        have hp : 2 ^ (i * BN + j) ≤ 2 ^ 7 := Nat.pow_le_pow_right (by omega) (by omega)
        have e : ((2 : Int) ^ (i * BN + j)) = ((2 ^ (i * BN + j) : Nat) : Int) := by simp
        rw [e, u32_or_nat _ _ (by omega) (by omega)]
        rw [ba, bb] at hnext
        exact hnext
      · rw [if_neg bb]
        refine Ev.neg (by decide) ?_
        rw [ba, Bool.eq_false_iff.2 bb] at hnext
        exact hnext
    · rw [if_neg ba]
      refine Ev.neg (by decide) ?_
      rw [Bool.eq_false_iff.2 ba] at hnext
      exact hnext
theorem pairs_l0 {an ak sa fa bn bk sb fb : Int} {nxa nxb : List (List Int)} (ga : GoodM an ak nxa sa fa) (gb : GoodM bn bk nxb sb fb) (hk : ak = bk) (a0 : 0 ≤ fa) (a1 : fa < 4294967296) (b0 : 0 ≤ fb) (b1 : fb < 4294967296) (hn : an * bn ≤ 7) (N' K' S' : Int) : ∀ (d i : Nat), (i : Int) + d = an →
    Ev (fun q => machine_Pairs.l0 q an (i : Int) an ak nxa sa fa bn bk nxb sb fb N' K' (rowsAt nxa nxb bn.toNat ak.toNat (i * bn.toNat)) S' (finAt fa fb bn.toNat (i * bn.toNat) : Int)) (N', K', rowsAt nxa nxb bn.toNat ak.toNat (an.toNat * bn.toNat), S', (finAt fa fb bn.toNat (an.toNat * bn.toNat) : Int)) := by
  have q1 := ga.n1; have q2 := ga.n7; have q6 := gb.n1
  intro d
  induction d with
  | zero =>
    intro i hi
    rw [show an.toNat = i by omega]
    exact Ev.step (fun q => by rw [machine_Pairs.l0]) (Ev.neg (by omega) (Ev.now _))
  | succ d ih =>
    intro i hi
    have h2 := ih (i + 1) (by omega)
    rw [show ((i + 1 : Nat) : Int) = wrap64 ((i : Int) + 1) by rw [w64 (by omega) (by omega)]; rfl] at h2
    have h3 := pairs_l1 ga gb hk a0 a1 b0 b1 hn N' K' S' i (by omega) h2 bn.toNat 0 (by omega)
    refine Ev.step (fun q => by rw [machine_Pairs.l0]) ?_
    refine Ev.pos (show (i : Int) < an by omega) ?_
    exact h3
theorem pairs_good {an ak sa fa bn bk sb fb : Int} {nxa nxb : List (List Int)} (ga : GoodM an ak nxa sa fa) (gb : GoodM bn bk nxb sb fb) (hk : ak = bk) (a0 : 0 ≤ fa) (a1 : fa < 4294967296) (b0 : 0 ≤ fb) (b1 : fb < 4294967296) (hn : an * bn ≤ 7) :
    ∃ (rows : List (List Int)) (F : Int), Ev (fun q => machine_Pairs.f q an ak nxa sa fa bn bk nxb sb fb) (an * bn, ak, rows, sa * bn + sb, F) ∧ 0 ≤ F ∧ F < 4294967296 ∧ GoodM (an * bn) ak rows (sa * bn + sb) F ∧
      (∀ i j s : Int, 0 ≤ i → i < an → 0 ≤ j → j < bn → 0 ≤ s → s < ak → stepM rows (i * bn + j) s = stepM nxa i s * bn + stepM nxb j s) ∧ (∀ i j : Int, 0 ≤ i → i < an → 0 ≤ j → j < bn → bit F (i * bn + j) = (bit fa i && bit fb j)) := by
  have q1 := ga.n1; have q2 := ga.n7; have q3 := ga.k1; have q4 := ga.k3; have q5 := ga.len; have q6 := gb.n1; have q7 := gb.n7; have q8 := gb.len; have q9 := ga.s0; have q10 := ga.s1; have q11 := gb.s0; have q12 := gb.s1
  have hin : ∀ i j : Int, 0 ≤ i → i < an → 0 ≤ j → j < bn → 0 ≤ i * bn ∧ i * bn + j < an * bn := fun i j i0 i1 j0 j1 => by
    have h1 : (i + 1) * bn ≤ an * bn := Int.mul_le_mul_of_nonneg_right (by omega) (by omega)
    rw [Int.add_mul] at h1
    exact ⟨Int.mul_nonneg i0 (by omega), by omega⟩
  have hs := hin sa sb q9 q10 q11 q12
  have hl := pairs_l0 ga gb hk a0 a1 b0 b1 hn (an * bn) ak (sa * bn + sb) an.toNat 0 (by omega)
  have inv := at_inv nxa nxb fa fb bn.toNat ak.toNat (an.toNat * bn.toNat)
  rw [Nat.zero_mul] at hl
  refine ⟨rowsAt nxa nxb bn.toNat ak.toNat (an.toNat * bn.toNat), (finAt fa fb bn.toNat (an.toNat * bn.toNat) : Int), Ev.congr (fun q => by rw [machine_Pairs.f]) ?_, ?_⟩
  · rw [w64 (n := an * bn) (by omega) (by omega), w64 (n := sa * bn) (by omega) (by omega), w64 (n := sa * bn + sb) (by omega) (by omega)]
    exact hl
  obtain ⟨AN, rfl⟩ := Int.eq_ofNat_of_zero_le (show 0 ≤ an by omega)
  obtain ⟨BN, rfl⟩ := Int.eq_ofNat_of_zero_le (show 0 ≤ bn by omega)
  obtain ⟨KN, rfl⟩ := Int.eq_ofNat_of_zero_le (show 0 ≤ ak by omega)
  simp only [Int.toNat_natCast] at inv ⊢
  obtain ⟨i1, i2, i3, i4⟩ := inv
  have hn' : AN * BN ≤ 7 := by exact_mod_cast hn
  generalize rowsAt nxa nxb BN KN (AN * BN) = rows at *
  generalize finAt fa fb BN (AN * BN) = F at *
  have hp : 2 ^ (AN * BN) ≤ 2 ^ 7 := Nat.pow_le_pow_right (by omega) hn'
  have hrow : ∀ p, p < AN * BN → p / BN < AN ∧ p % BN < BN := fun p hp => ⟨Nat.div_lt_of_lt_mul (by rw [Nat.mul_comm]; exact hp), Nat.mod_lt _ (by omega)⟩
  have key : ∀ i j : Int, 0 ≤ i → i < (AN : Int) → 0 ≤ j → j < (BN : Int) → ∃ I J : Nat, i = I ∧ j = J ∧ (i * (BN : Int) + j).toNat = I * BN + J ∧ I * BN + J < AN * BN ∧ (I * BN + J) / BN = I ∧ (I * BN + J) % BN = J := fun i j i0 ih j0 jh => by
    obtain ⟨I, rfl⟩ := Int.eq_ofNat_of_zero_le i0
    obtain ⟨J, rfl⟩ := Int.eq_ofNat_of_zero_le j0
    have hJ : J < BN := by omega
    refine ⟨I, J, rfl, rfl, ?_, ?_, ?_, ?_⟩
    · rw [← Int.natCast_mul, ← Int.natCast_add, Int.toNat_natCast]
    · have := (hin I J i0 ih j0 jh).2
      rw [← Int.natCast_mul, ← Int.natCast_add, ← Int.natCast_mul] at this
      exact_mod_cast this
    · rw [Nat.mul_comm, Nat.mul_add_div (by omega), Nat.div_eq_of_lt hJ, Nat.add_zero]
    · rw [Nat.mul_comm, Nat.mul_add_mod, Nat.mod_eq_of_lt hJ]
  have hstep : ∀ i j s : Int, 0 ≤ i → i < (AN : Int) → 0 ≤ j → j < (BN : Int) → 0 ≤ s → s < (KN : Int) → stepM rows (i * BN + j) s = stepM nxa i s * BN + stepM nxb j s := fun i j s i0 ih j0 jh s0 sh => by
    obtain ⟨I, J, rfl, rfl, e1, e2, e3, e4⟩ := key i j i0 ih j0 jh
    obtain ⟨s', rfl⟩ := Int.eq_ofNat_of_zero_le s0
    rw [stepM, e1, i2 _ e2, e3, e4, rowP, Int.toNat_natCast, List.getD_eq_getElem?_getD, List.getElem?_map, List.getElem?_range (by omega)]
    rfl
  have hmem : ∀ l ∈ rows, ∃ p, p < AN * BN ∧ l = rowP nxa nxb BN KN (p / BN) (p % BN) := fun l hl => by
    obtain ⟨p, hp, rfl⟩ := List.getElem_of_mem hl
    refine ⟨p, by omega, ?_⟩
    rw [← i2 p (by omega), List.getD_eq_getElem?_getD, List.getElem?_eq_getElem hp, Option.getD_some]
  refine ⟨Int.natCast_nonneg _, by omega, ⟨?_, hn, q3, q4, ?_, ?_, ?_, ?_, hs.2, ?_⟩, hstep, ?_⟩
  · rw [← Int.natCast_mul]
    have : 1 * 1 ≤ AN * BN := Nat.mul_le_mul (by omega) (by omega)
    omega
  · rw [i1, Int.natCast_mul]
  · intro l hl
    obtain ⟨p, _, rfl⟩ := hmem l hl
    simp [rowP]
  · intro l hl x hx
    obtain ⟨p, hp, rfl⟩ := hmem l hl
    obtain ⟨h1, h2⟩ := hrow p hp
    rw [rowP, List.mem_map] at hx
    obtain ⟨s, hs', rfl⟩ := hx
    rw [List.mem_range] at hs'
    have a := stepM_in ga (a := (p / BN : Nat)) (s := s) ⟨Int.natCast_nonneg _, Int.ofNat_lt.2 h1⟩ ⟨Int.natCast_nonneg _, Int.ofNat_lt.2 hs'⟩
    have b := stepM_in gb (a := (p % BN : Nat)) (s := s) ⟨Int.natCast_nonneg _, Int.ofNat_lt.2 h2⟩ ⟨Int.natCast_nonneg _, by rw [← hk]; exact Int.ofNat_lt.2 hs'⟩
    obtain ⟨u0, u1⟩ := hin _ _ a.1 a.2 b.1 b.2
    exact ⟨Int.add_nonneg u0 b.1, u1⟩
  · have := Int.mul_nonneg q9 (show (0 : Int) ≤ BN by omega); omega
  · rw [← Int.natCast_mul, Int.toNat_natCast]
    have e : ((2 : Int) ^ (AN * BN)) = ((2 ^ (AN * BN) : Nat) : Int) := by simp
    rw [e]
    exact Int.ofNat_lt.2 i3
  · intro i j i0 ih j0 jh
    obtain ⟨I, J, rfl, rfl, e1, e2, e3, e4⟩ := key i j i0 ih j0 jh
    rw [bit, e1, Int.toNat_natCast, i4, e3, e4, decide_eq_true e2, Bool.true_and]
theorem both_good {an ak sa fa bn bk sb fb : Int} {nxa nxb : List (List Int)} (ga : GoodM an ak nxa sa fa) (gb : GoodM bn bk nxb sb fb) (a0 : 0 ≤ fa) (a1 : fa < 4294967296) (b0 : 0 ≤ fb) (b1 : fb < 4294967296) {r : Int × Int × List (List Int) × Int × Int × Int}
    (h3 : ak ≠ bk → r = (0, 0, [], 0, 0, 3)) (h1 : ak = bk → an * bn > 7 → r = (0, 0, [], 0, 0, 1)) (h0 : ak = bk → an * bn ≤ 7 → ∀ p : Int × Int × List (List Int) × Int × Int, Ev (fun q => machine_Pairs.f q an ak nxa sa fa bn bk nxb sb fb) p → r = (p.1, p.2.1, p.2.2.1, p.2.2.2.1, p.2.2.2.2, 0)) :
    Ev (fun q => machine_Both.f q an ak nxa sa fa bn bk nxb sb fb) r := by
  have q1 := ga.n1; have q2 := ga.n7; have q6 := gb.n1; have q7 := gb.n7
  obtain ⟨e, he, hi⟩ := check_spec (n := an) (k := ak) (nx := nxa) (s := sa) a0 a1
  obtain ⟨e2, he2, hi2⟩ := check_spec (n := bn) (k := bk) (nx := nxb) (s := sb) b0 b1
  have hm : 0 ≤ an * bn ∧ an * bn ≤ 49 := ⟨Int.mul_nonneg (by omega) (by omega), by have : an * bn ≤ 7 * 7 := Int.mul_le_mul q2 q7 (by omega) (by omega); omega⟩
  refine Ev.congr (fun q => by rw [machine_Both.f]) (Ev.bind he (Ev.pos (hi.2 ga) (Ev.bind he2 (Ev.pos (hi2.2 gb) ?_))))
  by_cases c : ak = bk
  · refine Ev.pos c ?_
    rw [w64 (n := an * bn) (by omega) (by omega)]
    by_cases c2 : an * bn > 7
    · rw [h1 c c2]; exact Ev.pos c2 (Ev.now _)
    · obtain ⟨rows, F, hp, _⟩ := pairs_good ga gb c a0 a1 b0 b1 (by omega)
      rw [h0 c (by omega) _ hp]
      exact Ev.neg c2 (Ev.bind hp (Ev.now _))
  · rw [h3 c]; exact Ev.neg c (Ev.now _)
end Go.Proofs.Ytiiankjmeodjdaa.PAM
