/- ends.order and ends.common over lists, in plain Lean. Conditions: none. -/
import Derived.Test.YtkalcljgcigdgaaPEKasai
import Derived.Test.YtkalcljgcigdgaaGE2
import Derived.Test.YtkalcljgcigdgaaGE8
namespace Go.Proofs.Ytkalcljgcigdgaa.PEM
set_option linter.unusedVariables false
set_option linter.unusedSimpArgs false
open Go.RowKit Go.Proofs.Ytkalcljgcigdgaa.GE Go.Proofs.YtkalcljgcigdgaaW.PrintWords Go.Proofs.YtkalcljgcigdgaaW.PrintLast Go.Proofs.YtkalcljgcigdgaaW.PrintMore

def BytesL (w : List Int) : Prop := ∀ x ∈ w, 0 ≤ x ∧ x ≤ 255
theorem u8_lt {x y : Int} (hx : 0 ≤ x ∧ x ≤ 255) (hy : 0 ≤ y ∧ y ≤ 255) : UInt8.ofNat x.toNat < UInt8.ofNat y.toNat ↔ x < y := by
  rw [UInt8.lt_iff_toNat_lt]
  simp only [UInt8.toNat_ofNat']
  omega
theorem cmp_lex : ∀ {a b : List Int}, BytesL a → BytesL b → (Lib.compareBytes (a.map fun n => UInt8.ofNat n.toNat) (b.map fun n => UInt8.ofNat n.toNat) < 0 ↔ lexL a b = true)
  | [], [], _, _ => by simp [Lib.compareBytes, lexL]
  | [], _ :: _, _, _ => by simp [Lib.compareBytes, lexL]
  | _ :: _, [], _, _ => by simp [Lib.compareBytes, lexL]
  | x :: a, y :: b, ha, hb => by
    have hx := ha x List.mem_cons_self
    have hy := hb y List.mem_cons_self
    have ih := cmp_lex (a := a) (b := b) (fun z hz => ha z (List.mem_cons_of_mem _ hz)) (fun z hz => hb z (List.mem_cons_of_mem _ hz))
    rw [List.map_cons, List.map_cons, Lib.compareBytes]
    simp only [lexL, Bool.or_eq_true, decide_eq_true_iff, Bool.and_eq_true, beq_iff_eq]
    by_cases h1 : x < y
    · rw [if_pos ((u8_lt hx hy).2 h1)]
      exact ⟨fun _ => .inl h1, fun _ => by decide⟩
    · rw [if_neg (fun h => h1 ((u8_lt hx hy).1 h))]
      by_cases h2 : y < x
      · rw [if_pos ((u8_lt hy hx).2 h2)]
        exact ⟨fun h => absurd h (by decide), fun h => by rcases h with h | h <;> omega⟩
      · rw [if_neg (fun h => h2 ((u8_lt hy hx).1 h)), ih]
        exact ⟨fun h => .inr ⟨by omega, h⟩, fun h => by rcases h with h | h; exact absurd h h1; exact h.2⟩
theorem cf_lex {w : List Int} (hw : BytesL w) (i j : Nat) : ends_order.cf w i j < 0 ↔ lexL (w.drop i) (w.drop j) = true := by
  unfold ends_order.cf
  rw [strOfNums_data, strOfNums_data, Int.toNat_natCast, Int.toNat_natCast]
  exact cmp_lex (fun x hx => hw x (List.mem_of_mem_drop hx)) (fun x hx => hw x (List.mem_of_mem_drop hx))
theorem fin_ord {w : List Int} (hw : BytesL w) : OrdL w ((ends_order.fin w).map fun i => ((i.val : Nat) : Int)) := by
  have hle : ∀ x y : Fin w.length, (!decide (ends_order.cf w ((y.val : Nat) : Int) ((x.val : Nat) : Int) < 0)) = true ↔ lexL (w.drop y.val) (w.drop x.val) = false := by
    intro x y
    have := cf_lex hw y.val x.val
    cases h : lexL (w.drop y.val) (w.drop x.val) with
    | false => simp [this, h]
    | true => simp [this, h]
  have hperm : (ends_order.fin w).Perm (List.finRange w.length) := List.mergeSort_perm _ _
  have hsort : (ends_order.fin w).Pairwise fun x y => (!decide (ends_order.cf w ((y.val : Nat) : Int) ((x.val : Nat) : Int) < 0)) = true := by
    refine List.pairwise_mergeSort (fun a b c h1 h2 => ?_) (fun a b => ?_) _
    · rw [hle] at h1 h2 ⊢
      cases hc : lexL (w.drop c.val) (w.drop a.val) with
      | false => rfl
      | true =>
        exfalso
        cases hab : lexL (w.drop a.val) (w.drop b.val) with
        | false => rw [lexL_total h1 hab] at h2; rw [h2] at hc; cases hc
        | true => rw [lexL_trans hc hab] at h2; cases h2
    · rw [Bool.or_eq_true, hle, hle]
      cases h1 : lexL (w.drop b.val) (w.drop a.val) with
      | false => exact .inl rfl
      | true =>
        right
        cases h2 : lexL (w.drop a.val) (w.drop b.val) with
        | false => rfl
        | true => have := lexL_trans h1 h2; rw [lexL_irrefl] at this; cases this
  have hnd : (ends_order.fin w).Nodup := hperm.nodup_iff.2 (List.nodup_finRange _)
  have hlen : (ends_order.fin w).length = w.length := by rw [hperm.length_eq, List.length_finRange]
  have hget : ∀ k (hk : k < w.length), ((ends_order.fin w).map fun i => ((i.val : Nat) : Int)).getD k 0 = ((((ends_order.fin w)[k]'(by omega)).val : Nat) : Int) := by
    intro k hk
    rw [List.getD_eq_getElem?_getD, List.getElem?_map, List.getElem?_eq_getElem (by omega)]
    rfl
  have hinj : ∀ k k' (hk : k < w.length) (hk' : k' < w.length), (ends_order.fin w)[k]'(by omega) = (ends_order.fin w)[k']'(by omega) → k = k' := fun k k' hk hk' h => (List.getElem_inj hnd).1 h
  refine ⟨by simp [hlen], fun k hk => ?_, fun i hi => ?_, fun k k' hk hk' h => ?_, fun k k' hkk hk' => ?_⟩
  · rw [hget k hk]
    have := ((ends_order.fin w)[k]'(by omega)).isLt
    omega
  · have hm : (⟨i, hi⟩ : Fin w.length) ∈ ends_order.fin w := hperm.mem_iff.2 (List.mem_finRange _)
    obtain ⟨k, hk, e⟩ := List.mem_iff_getElem.1 hm
    exact ⟨k, by omega, by rw [hget k (by omega), e]⟩
  · rw [hget k hk, hget k' hk'] at h
    exact hinj k k' hk hk' (Fin.ext (by omega))
  · have hp := (List.pairwise_iff_getElem.1 hsort) k k' (by omega) (by omega) hkk
    rw [hle] at hp
    rw [hget k (by omega), hget k' hk', Int.toNat_natCast, Int.toNat_natCast]
    cases h : lexL (w.drop ((ends_order.fin w)[k]'(by omega)).val) (w.drop ((ends_order.fin w)[k']'(by omega)).val) with
    | true => rfl
    | false =>
      exfalso
      have e := congrArg List.length (lexL_total h hp)
      rw [List.length_drop, List.length_drop] at e
      have a1 := ((ends_order.fin w)[k]'(by omega)).isLt
      have a2 := ((ends_order.fin w)[k']'(by omega)).isLt
      have := hinj k k' (by omega) hk' (Fin.ext (by omega))
      omega
theorem wadd (a b : Nat) (h : a + b ≤ 1000000) : wrap64 ((a : Int) + (b : Int)) = ((a + b : Nat) : Int) := by rw [w64 (by omega) (by omega)]; omega
theorem wadd1 (a : Nat) (h : a ≤ 1000000) : wrap64 ((a : Int) + 1) = ((a + 1 : Nat) : Int) := by rw [w64 (by omega) (by omega)]; omega
theorem wsub1 (a : Nat) (h0 : 0 < a) (h : a ≤ 1000000) : wrap64 ((a : Int) - 1) = ((a - 1 : Nat) : Int) := by rw [w64 (by omega) (by omega)]; omega
section
variable {w l : List Int} (hO : OrdL w l) (hn : w.length ≤ 60)
theorem mx_nat (L : Nat) (h : L ≤ 1000) : mx (wrap64 ((L : Int) - 1)) 0 = ((L - 1 : Nat) : Int) := by
  rw [w64 (by omega) (by omega)]
  unfold mx
  split <;> omega
theorem getD_set {xs : List Int} {i j : Nat} {v : Int} (hi : i < xs.length) : (xs.set i v).getD j 0 = if j = i then v else xs.getD j 0 := by
  simp only [List.getD_eq_getElem?_getD, List.getElem?_set]
  by_cases h : i = j
  · subst h; simp [hi]
  · rw [if_neg h, if_neg (fun e => h e.symm)]
/-- The common beginning at rank r. -/
def comL (w l : List Int) (r : Nat) : Nat := lcpL (w.drop (l.getD r 0).toNat) (w.drop (l.getD (r - 1) 0).toNat)
def RankL (w l rank : List Int) : Prop := rank.length = w.length ∧ ∀ k, k < w.length → rank.getD (l.getD k 0).toNat 0 = (k : Int)
theorem common_l2 (hO : OrdL w l) (hn : w.length ≤ 60) {rank : List Int} (hR : RankL w l rank) {r i : Nat} (hr : 0 < r) (hrn : r < w.length) (hi : l.getD r 0 = (i : Int)) {out : List Int} (ho : out.length = w.length - 1) {res : List Int}
    (hk : Ev (fun q => ends_common.l1 q w l (out.set (r - 1) (comL w l r : Int)) rank ((comL w l r - 1 : Nat) : Int) (w.length : Int) ((i + 1 : Nat) : Int)) res) :
    ∀ (d h : Nat), h + d = comL w l r → Ev (fun q => ends_common.l2 q w l out rank (h : Int) (i : Int) (l.getD (r - 1) 0) (w.length : Int) (i : Int)) res := by
  have hri : rank.getD i 0 = (r : Int) := by have := hR.2 r hrn; rwa [hi, Int.toNat_natCast] at this
  have hin : i < w.length := by have := (hO.inr r hrn).2; omega
  obtain ⟨j, ej⟩ := Int.eq_ofNat_of_zero_le (hO.inr (r - 1) (by omega)).1
  have hjn : j < w.length := by have := (hO.inr (r - 1) (by omega)).2; omega
  have hcom : comL w l r = lcpL (w.drop i) (w.drop j) := by unfold comL; rw [hi, ej, Int.toNat_natCast, Int.toNat_natCast]
  have hcl : comL w l r ≤ 60 := by rw [hcom]; have := lcp_le_left (w.drop i) (w.drop j); rw [List.length_drop] at this; omega
  rw [ej]
  intro d
  induction d with
  | zero =>
    intro h hh
    have stop := lcp_drop (w := w) (i := i) (j := j) (h := h) (by rw [← hcom]; omega) (by omega) (by omega)
    have hno : ¬ (i + h < w.length ∧ j + h < w.length ∧ w.getD (i + h) 0 = w.getD (j + h) 0) := fun hc => by have := stop.2 hc; omega
    have cont : Ev (fun q => if 0 ≤ (i : Int) then (if (i : Int) < (rank.length : Int) then (if 0 ≤ (wrap64 ((rd rank (i : Int)) - 1)) then (if (wrap64 ((rd rank (i : Int)) - 1)) < (out.length : Int) then (ends_common.l1 q w l (out.set ((wrap64 ((rd rank (i : Int)) - 1)) : Int).toNat (h : Int)) rank (mx (wrap64 ((h : Int) - 1)) 0) (w.length : Int) (wrap64 ((i : Int) + 1))) else (none)) else (none)) else (none)) else (none)) res := by
      rw [rd_nat, hri, wsub1 r hr (by omega), wadd1 i (by omega), Int.toNat_natCast, mx_nat h (by omega)]
      refine Ev.pos (by omega) ?_
      refine Ev.pos (by rw [hR.1]; omega) ?_
      refine Ev.pos (by omega) ?_
      refine Ev.pos (by rw [ho]; omega) ?_
      have : h = comL w l r := by omega
      rw [this]
      exact hk
    refine Ev.step (fun q => by rw [ends_common.l2, wadd i h (by omega), wadd j h (by omega)]) ?_
    by_cases c1 : i + h < w.length
    · refine Ev.pos (by omega) ?_
      by_cases c2 : j + h < w.length
      · refine Ev.pos (by omega) ?_
        refine Ev.pos (by omega) ?_
        refine Ev.pos (by omega) ?_
        refine Ev.neg (by rw [rd_nat, rd_nat]; exact fun e => hno ⟨c1, c2, e⟩) ?_
        exact cont
      · refine Ev.neg (by omega) ?_
        exact cont
    · refine Ev.neg (by omega) ?_
      exact cont
  | succ d ih =>
    intro h hh
    have stop := (lcp_drop (w := w) (i := i) (j := j) (h := h) (by rw [← hcom]; omega) (by omega) (by omega)).1 (by rw [← hcom]; omega)
    refine Ev.step (fun q => by rw [ends_common.l2, wadd i h (by omega), wadd j h (by omega), wadd1 h (by omega)]) ?_
    refine Ev.pos (by omega) ?_
    refine Ev.pos (by omega) ?_
    refine Ev.pos (by omega) ?_
    refine Ev.pos (by omega) ?_
    refine Ev.pos (by rw [rd_nat, rd_nat]; exact stop.2.2) ?_
    exact ih (h + 1) (by omega)
theorem common_l1 (hO : OrdL w l) (hn : w.length ≤ 60) {rank : List Int} (hR : RankL w l rank) : ∀ (d i : Nat), i + d = w.length → ∀ (out : List Int) (h : Nat), out.length = w.length - 1 → (∀ r, 0 < r → r < w.length → l.getD r 0 < (i : Int) → out.getD (r - 1) 0 = (comL w l r : Int)) → (∀ r, 0 < r → r < w.length → l.getD r 0 = (i : Int) → h ≤ comL w l r) →
    ∃ out', Ev (fun q => ends_common.l1 q w l out rank (h : Int) (w.length : Int) (i : Int)) out' ∧ out'.length = w.length - 1 ∧ ∀ r, 0 < r → r < w.length → out'.getD (r - 1) 0 = (comL w l r : Int) := by
  intro d
  induction d with
  | zero =>
    intro i hi out h ho hdone hh
    refine ⟨out, ?_, ho, fun r h0 h1 => hdone r h0 h1 (by have := (hO.inr r h1).2; omega)⟩
    refine Ev.step (fun q => by rw [ends_common.l1]) ?_
    exact Ev.neg (by omega) (Ev.now _)
  | succ d ih =>
    intro i hi out h ho hdone hh
    have hin : i < w.length := by omega
    obtain ⟨r, hrn, hri⟩ := hO.all i hin
    have hrk : rank.getD i 0 = (r : Int) := by have := hR.2 r hrn; rwa [hri, Int.toNat_natCast] at this
    by_cases hr0 : r = 0
    · subst hr0
      obtain ⟨out', hE, a, b⟩ := ih (i + 1) (by omega) out 0 ho (fun r h0 h1 h2 => by
        by_cases e : l.getD r 0 = (i : Int)
        · have := hO.inj r 0 h1 hrn (by rw [e, hri]); omega
        · exact hdone r h0 h1 (by omega)) (fun _ _ _ _ => Nat.zero_le _)
      refine ⟨out', ?_, a, b⟩
      refine Ev.step (fun q => by rw [ends_common.l1, rd_nat, hrk, wadd1 i (by omega)]) ?_
      refine Ev.pos (by omega) ?_
      refine Ev.pos (by omega) ?_
      refine Ev.pos (by rw [hR.1]; omega) ?_
      refine Ev.pos rfl ?_
      exact hE
    · obtain ⟨out', hE, a, b⟩ := ih (i + 1) (by omega) (out.set (r - 1) (comL w l r : Int)) (comL w l r - 1) (by rw [List.length_set]; exact ho) (fun r' h0 h1 h2 => by
        rw [getD_set (by omega)]
        by_cases e : r' - 1 = r - 1
        · rw [if_pos e, show r' = r by omega]
        · rw [if_neg e]
          refine hdone r' h0 h1 ?_
          have : l.getD r' 0 ≠ (i : Int) := fun e2 => e (by rw [hO.inj r' r h1 hrn (by rw [e2, hri])])
          omega) (fun r' h0 h1 h2 => by
        have := hO.next (r := r) (r' := r') (i := i) (by omega) hrn hri h0 h1 h2
        unfold comL
        rw [hri, h2, Int.toNat_natCast, Int.toNat_natCast]
        exact this)
      refine ⟨out', ?_, a, b⟩
      refine Ev.step (fun q => by rw [ends_common.l1, rd_nat, hrk, wsub1 r (by omega) (by omega), rd_nat]) ?_
      refine Ev.pos (by omega) ?_
      refine Ev.pos (by omega) ?_
      refine Ev.pos (by rw [hR.1]; omega) ?_
      refine Ev.neg (by omega) ?_
      refine Ev.pos (by omega) ?_
      refine Ev.pos (by rw [hO.len]; omega) ?_
      exact common_l2 hO hn hR (by omega) hrn hri ho hE (comL w l r - h) h (by have := hh r (by omega) hrn hri; omega)
theorem common_l0 (hO : OrdL w l) (hn : w.length ≤ 60) {out : List Int} {res : List Int} (hk : ∀ rank, RankL w l rank → Ev (fun q => ends_common.l1 q w l out rank 0 (w.length : Int) 0) res) : ∀ (d k : Nat), k + d = w.length → ∀ (rank : List Int), rank.length = w.length → (∀ k', k' < k → rank.getD (l.getD k' 0).toNat 0 = (k' : Int)) →
    Ev (fun q => ends_common.l0 q w l out rank l (l.length : Int) (k : Int)) res := by
  intro d
  induction d with
  | zero =>
    intro k hkk rank hlen hr
    refine Ev.step (fun q => by rw [ends_common.l0]) ?_
    refine Ev.neg (by rw [hO.len]; omega) ?_
    exact hk rank ⟨hlen, fun k' h => hr k' (by omega)⟩
  | succ d ih =>
    intro k hkk rank hlen hr
    have hkn : k < w.length := by omega
    obtain ⟨i, ei⟩ := Int.eq_ofNat_of_zero_le (hO.inr k hkn).1
    have hin : i < w.length := by have := (hO.inr k hkn).2; omega
    refine Ev.step (fun q => by rw [ends_common.l0, rd_nat, ei, wadd1 k (by omega), Int.toNat_natCast]) ?_
    refine Ev.pos (by rw [hO.len]; omega) ?_
    refine Ev.pos (by omega) ?_
    refine Ev.pos (by rw [hO.len]; omega) ?_
    refine Ev.pos (by omega) ?_
    refine Ev.pos (by rw [hlen]; omega) ?_
    refine ih (k + 1) (by omega) _ (by rw [List.length_set]; exact hlen) (fun k' hk' => ?_)
    rw [getD_set (by omega)]
    by_cases e : k' = k
    · subst e; rw [ei, Int.toNat_natCast, if_pos rfl]
    · rw [if_neg, hr k' (by omega)]
      intro e2
      have hp := (hO.inr k' (by omega)).1
      exact e (hO.inj k' k (by omega) hkn (by rw [ei]; omega))
theorem common_spec (hO : OrdL w l) (hn : w.length ≤ 60) : ∃ out, Ev (fun q => ends_common.f q w l) out ∧ out.length = w.length - 1 ∧ ∀ r, 0 < r → r < w.length → out.getD (r - 1) 0 = (comL w l r : Int) := by
  have hm : mx (wrap64 ((l.length : Int) - 1)) 0 = ((w.length - 1 : Nat) : Int) := by rw [hO.len]; exact mx_nat _ (by omega)
  have key : ∃ out, (∀ rank, RankL w l rank → Ev (fun q => ends_common.l1 q w l (List.replicate (w.length - 1) 0) rank 0 (w.length : Int) 0) out) ∧ out.length = w.length - 1 ∧ ∀ r, 0 < r → r < w.length → out.getD (r - 1) 0 = (comL w l r : Int) := by
    have one : ∀ rank, RankL w l rank → ∃ out', Ev (fun q => ends_common.l1 q w l (List.replicate (w.length - 1) 0) rank 0 (w.length : Int) 0) out' ∧ out'.length = w.length - 1 ∧ ∀ r, 0 < r → r < w.length → out'.getD (r - 1) 0 = (comL w l r : Int) :=
      fun rank hR => common_l1 hO hn hR w.length 0 (by omega) (List.replicate (w.length - 1) 0) 0 (by simp) (fun r h0 h1 h2 => by have := (hO.inr r h1).1; omega) (fun _ _ _ _ => Nat.zero_le _)
    refine ⟨(List.range (w.length - 1)).map fun r => (comL w l (r + 1) : Int), fun rank hR => ?_, by simp, fun r h0 h1 => ?_⟩
    · obtain ⟨o, hE, a, b⟩ := one rank hR
      have : o = (List.range (w.length - 1)).map fun r => (comL w l (r + 1) : Int) := by
        apply List.ext_getElem?
        intro r
        by_cases hr : r < w.length - 1
        · have := b (r + 1) (by omega) (by omega)
          rw [Nat.add_sub_cancel, List.getD_eq_getElem?_getD, List.getElem?_eq_getElem (by omega), Option.getD_some] at this
          rw [List.getElem?_eq_getElem (by omega), this, List.getElem?_map, List.getElem?_range hr]
          rfl
        · rw [List.getElem?_eq_none (by omega), List.getElem?_eq_none (by simp; omega)]
      rw [← this]; exact hE
    · rw [List.getD_eq_getElem?_getD, List.getElem?_map, List.getElem?_range (by omega)]
      simp only [Option.map_some, Option.getD_some]
      rw [show r - 1 + 1 = r by omega]
  obtain ⟨out, hk, a, b⟩ := key
  refine ⟨out, ?_, a, b⟩
  refine Ev.congr (fun q => by rw [ends_common.f, hm, Int.toNat_natCast, Int.toNat_natCast]) ?_
  refine Ev.pos (by omega) ?_
  refine Ev.pos (by omega) ?_
  refine Ev.pos (by omega) ?_
  refine Ev.pos (by omega) ?_
  exact common_l0 hO hn hk w.length 0 (by omega) _ (by simp) (fun k' h => by omega)
end
end Go.Proofs.Ytkalcljgcigdgaa.PEM
