-- Written by ext.py, a program of this session.
import Derived.Test.YthgiiikjcfhgjaaGU0
namespace Go.Proofs.Ythgiiikjcfhgjaa.GU
open Go.RowKit Go.Proofs.YthgiiikjcfhgjaaW.PrintWords Go.Proofs.YthgiiikjcfhgjaaW.PrintLast Go.Proofs.YthgiiikjcfhgjaaW.PrintMore
attribute [local go_sem] max2_int min2_int max_two min_two max_three min_three max_four min_four cellIs_set   -- for this text's walks alone
set_option linter.unusedVariables false
set_option linter.unusedSimpArgs false

-- NOT PRINTED: function 136 (api_Rule_136)

-- NOT PRINTED: function 113 (api_Rule_113)

-- NOT PRINTED: function 111 (slices_IndexFunc_int_int)

-- NOT PRINTED: function 63 (slices_ContainsFunc_int_int)

/-! ### grammar_signs: function 117 -/
def grammar_signs_any.p (k n x : Int) : Bool := decide (x < 0) || decide (x ≥ wrap64 (k + n))
def grammar_signs_any.f (l0 : List Int) (k n : Int) : Option Bool := some (l0.any (grammar_signs_any.p k n))
set_option maxHeartbeats 2000000 in
theorem grammar_signs_any.idx (g : Nat) (lb : Array Value) (eg : ∀ args w, (callFunc g args).run Try.prog w = .ok (.enter g args) w) (A : Option Addr) (n c : Nat) (raw : Nat → Value) (p : Nat → Bool) (w : World) (hbig : n ≤ 9223372036854775807) (hc : ∀ j, j < n → ∃ ad, A = some ad ∧ w.cell? (ad.add j) = some (raw j))
    (hp : ∀ W j, j < n → Below w.heap.size w W → Calls Try.prog g (#[raw j] ++ lb) W fun e w' => e = .returned (.bool (p j)) ∧ ∃ q, w' = W.drewN q) :
    Calls Try.prog 111 #[.slice A n c, .func (.func g) #[] lb] w fun e w' => (∃ r : Int, e = .returned (.int .i64 r) ∧ (0 ≤ r ↔ ∃ j, j < n ∧ p j = true)) ∧ ∃ q, w' = w.drewN q := by
  go_enter Try.func111, Try.ntmps111
  go_wp2
  go_loopg [5, 8] n (fun gg _ s8 wr => ∃ kk q : Nat, kk ≤ n ∧ n - kk ≤ gg ∧ s8 = .int .i64 kk ∧ wr = w.drewN q ∧ Aside0 (∀ j, j < kk → p j = false))
  case atStart => exact ⟨0, 0, Nat.zero_le _, by omega, rfl, rfl, ⟨fun j hj => absurd hj (Nat.not_lt_zero _)⟩⟩
  case round =>
    obtain ⟨kk, q, hkk, hg, rfl, rfl, A0⟩ := hrel
    by_cases hlt : kk < n
    · have hltz : (kk : Int) < (n : Int) := by omega
      obtain ⟨ad, rfl, hcell⟩ := hc kk hlt
      have hcall := fun q => hp (w.drewN q) kk hlt (pw_below_drewN (Below.refl _ w) q)
      clear hc hp
      obtain ⟨b, off, lab⟩ := ad
      generalize raw kk = y at hcell hcall
      cases hq : p kk with
      | true =>
        rw [hq] at hcall
        go_wp2_with (go_at_fn g; refine (hcall _).mono ?_; rintro e w' ⟨rfl, q', rfl⟩)
        go_ret
        exact ⟨⟨(kk : Int), rfl, ⟨fun _ => ⟨kk, hlt, hq⟩, fun _ => by omega⟩⟩, _, rfl⟩
      | false =>
        rw [hq] at hcall
        go_wp2_with (go_at_fn g; refine (hcall _).mono ?_; rintro e w' ⟨rfl, q', rfl⟩)
        go_roundg (n - (kk + 1))
        case measure => omega
        case rel =>
          refine ⟨kk + 1, _, by omega, by omega, by go_num, rfl, ⟨fun j hj => ?_⟩⟩
          by_cases e : j = kk
          · subst e; exact hq
          · exact A0.out j (by omega)
    · have hltz : ¬ (kk : Int) < (n : Int) := by omega
      have : kk = n := by omega
      subst this
      go_wp2
      go_ret
      refine ⟨⟨-1, rfl, ⟨fun h => absurd h (by decide), fun ⟨j, hj, hj2⟩ => ?_⟩⟩, q, rfl⟩
      rw [A0.out j hj] at hj2
      exact absurd hj2 (by decide)
set_option maxHeartbeats 2000000 in
theorem grammar_signs_any.any (g : Nat) (lb : Array Value) (eg : ∀ args w, (callFunc g args).run Try.prog w = .ok (.enter g args) w) (A : Option Addr) (n c : Nat) (raw : Nat → Value) (p : Nat → Bool) (w : World) (hbig : n ≤ 9223372036854775807) (hc : ∀ j, j < n → ∃ ad, A = some ad ∧ w.cell? (ad.add j) = some (raw j))
    (hp : ∀ W j, j < n → Below w.heap.size w W → Calls Try.prog g (#[raw j] ++ lb) W fun e w' => e = .returned (.bool (p j)) ∧ ∃ q, w' = W.drewN q) (b : Bool) (hb : b = true ↔ ∃ j, j < n ∧ p j = true) :
    Calls Try.prog 63 #[.slice A n c, .func (.func g) #[] lb] w fun e w' => e = .returned (.bool b) ∧ ∃ q, w' = w.drewN q := by
  have hI0 := grammar_signs_any.idx g lb eg A n c raw p w hbig hc hp
  have hI := fun q => grammar_signs_any.idx g lb eg A n c raw p (w.drewN q) hbig (fun j hj => hc j hj) (fun W j hj hB => hp W j hj ((pw_below_drewN (Below.refl _ w) q).trans hB))
  clear hc hp
  go_enter Try.func63, Try.ntmps63
  go_wp2_with (go_at_call 111; (first | refine hI0.mono ?_ | refine (hI _).mono ?_); rintro e w' ⟨⟨r, rfl, hr⟩, q', rfl⟩)
  go_ret
  refine ⟨?_, _, rfl⟩
  have : decide (0 ≤ r) = b := by
    rw [Bool.eq_iff_iff, decide_eq_true_iff, hr, hb]
  first | rw [this] | (subst this; rfl) | (simp [← this, hr]; done)
theorem grammar_signs_any.lit (k n x : Int) (g : Nat) (w : World) (hk : w.cell? ⟨g, 0, none⟩ = some (.int .i64 k)) (hn : w.cell? ⟨g, 1, none⟩ = some (.int .i64 n)) :
    Calls Try.prog 137 #[.int .i64 x, .pointer (some ⟨g, 0, none⟩)] w fun e w' => e = .returned (.bool (grammar_signs_any.p k n x)) ∧ ∃ q, w' = w.drewN q := by
  unfold grammar_signs_any.p
  have hu := Try.underlying51
  by_cases h1 : x < 0
  · have h1b : decide (x < 0) = true := decide_eq_true h1
    go_enter Try.func137, Try.ntmps137
    go_wp2
    all_goals go_ret
    all_goals first | exact ⟨by simp [h1], _, rfl⟩ | exact ⟨by simp [h1], 0, rfl⟩
  · have h1b : decide (x < 0) = false := decide_eq_false h1
    by_cases h2 : x ≥ wrap64 (k + n)
    · have h2b : decide (x ≥ wrap64 (k + n)) = true := decide_eq_true h2
      go_enter Try.func137, Try.ntmps137
      go_wp2
      all_goals go_ret
      all_goals first | exact ⟨by simp [h1, h2], _, rfl⟩ | exact ⟨by simp [h1, h2], 0, rfl⟩
    · have h2b : decide (x ≥ wrap64 (k + n)) = false := decide_eq_false h2
      go_enter Try.func137, Try.ntmps137
      go_wp2
      all_goals go_ret
      all_goals first | exact ⟨by simp [h1, h2], _, rfl⟩ | exact ⟨by simp [h1, h2], 0, rfl⟩
theorem grammar_signs_any.calls (A0 : Option Addr) (c0 : Nat) (l0 : List Int) (g : Nat) (cs : Array Value) (k n : Int) (r : Bool) (w : World) (hr0 : Kd.C (Kd.int .i64) w A0 l0.length l0) (hc0 : l0.length ≤ c0) (hB : w.heap[g]? = some (.cells cs 51 (0, 0))) (h1 : cs[0]? = some (.int .i64 k)) (h2 : cs[1]? = some (.int .i64 n)) (h : grammar_signs_any.f l0 k n = some r) :
    Calls Try.prog 63 #[.slice A0 l0.length c0, .func (.func 137) #[] #[.pointer (some ⟨g, 0, none⟩)]] w fun e w' => e = .returned (.bool r) ∧ Drawn0 w w' := by
  unfold grammar_signs_any.f at h
  have hr := Option.some.inj h
  have hrr := Kd.reads_of_C (enc := Value.int .i64) (d := (0 : Int)) (h1 := fun _ => rfl) hr0
  have hk : w.cell? ⟨g, 0, none⟩ = some (.int .i64 k) := (blk_cell hB 0).trans h1
  have hn : w.cell? ⟨g, 1, none⟩ = some (.int .i64 n) := (blk_cell hB 1).trans h2
  refine (grammar_signs_any.any 137 #[.pointer (some ⟨g, 0, none⟩)] (enters_of Try.func137 (by kernel_rfl) rfl) A0 l0.length c0 (fun j => .int .i64 (l0.getD j 0)) (fun j => grammar_signs_any.p k n (l0.getD j 0)) w hrr.2.1 ?_ (fun W j hj hb => ?_) r ?_).mono ?_
  · intro j hj
    obtain ⟨ad, e, hcl⟩ := hrr.2.2 (by omega)
    exact ⟨ad, e, hcl j hj⟩
  · exact grammar_signs_any.lit k n (l0.getD j 0) g W (pw_cell_below hb hk) (pw_cell_below hb hn)
  · rw [← hr, List.any_eq_true]
    constructor
    · rintro ⟨x, hx, hx2⟩
      obtain ⟨j, hj, rfl⟩ := List.getElem_of_mem hx
      refine ⟨j, hj, ?_⟩
      rwa [List.getD_eq_getElem?_getD, List.getElem?_eq_getElem hj]
    · rintro ⟨j, hj, hj2⟩
      rw [List.getD_eq_getElem?_getD, List.getElem?_eq_getElem hj] at hj2
      exact ⟨_, List.getElem_mem hj, hj2⟩
  · rintro e w' ⟨rfl, q, rfl⟩
    exact ⟨rfl, ⟨⟨q, rfl⟩⟩⟩

def grammar_signs.f (a0_0 : Int) (a0_1 : Int) (a0_2 : Int) (l0_3 : List (S126)) (l1 : List Int) : Option (Bool) := (grammar_signs_any.f l1 a0_0 a0_1).bind fun t102 => (some (!t102))
set_option maxHeartbeats 8000000 in
set_option maxRecDepth 100000 in
theorem grammar_signs.calls (a0_0 : Int) (a0_1 : Int) (a0_2 : Int) (A0_3 : Option Addr) (c0_3 : Nat) (l0_3 : List (S126)) (A1 : Option Addr) (c1 : Nat) (l1 : List Int) (r : Bool) (w : World) (hr0_3 : Kd.C k126 w A0_3 l0_3.length l0_3) (hc0_3 : l0_3.length ≤ c0_3) (hr1 : Kd.C (Kd.int .i64) w A1 l1.length l1) (hc1 : l1.length ≤ c1) (h : grammar_signs.f a0_0 a0_1 a0_2 l0_3 l1 = some r) :
    Calls Try.prog 117 #[.agg #[.int .i64 a0_0, .int .i64 a0_1, .int .i64 a0_2, .slice A0_3 l0_3.length c0_3], .slice A1 l1.length c1] w fun e w' => e = .returned (.bool r) ∧ Below w.heap.size w w' := by
  have hu51 := Try.underlying51
  have HR0_3 := Aside0.mk hr0_3
  have HC0_3 := Aside0.mk hc0_3
  clear hr0_3 hc0_3
  have HR1 := Aside0.mk hr1
  have HC1 := Aside0.mk hc1
  clear hr1 hc1
  have HB := Aside0.mk (Below.refl w.heap.size w)
  have H : ((grammar_signs_any.f l1 a0_0 a0_1).bind fun t102 => (some (!t102))) = some r := h
  clear h
  replace H := Option.bind_eq_some_iff.mp H
  obtain ⟨t102, A30, H⟩ := H
  replace H : (some (!t102)) = some r := H
  have A3 := Aside0.mk A30
  clear A30
  obtain rfl := Option.some.inj H
  go_enter Try.func117, Try.ntmps117
  go_wp2_with (first | ((with_reducible refine gate_dst (N := 2) rfl ?_); refine box_event ?hg (N := 2) ?hd (cs := #[.int .i64 a0_0, .int .i64 a0_1, .int .i64 a0_2, .slice A0_3 l0_3.length c0_3]) (t := 51) ?hr ?_; (case hd => rfl); (case hg => rfl); (case hr => first | (go_simp; done) | (go_simp; rfl)); intro gb101 hg w4 hbox hb; have n0_ := Aside0.mk (below_step (by repeat (first | (with_reducible first | exact HB.out | apply below_alloc | apply pw_below_drewN | apply below_drew1) | exact HB.out)) hb); have n1_ := Aside0.mk (hbox); have n2_ := Aside0.mk ((by rw [hg]; exact (below_size (by repeat (first | (with_reducible first | exact HB.out | apply below_alloc | apply pw_below_drewN | apply below_drew1) | exact HB.out))) : w.heap.size ≤ gb101)); have n3_ := Aside0.mk ((by rw [hg]; exact (below_size (by repeat (first | (with_reducible first | exact HB.out | apply below_alloc | apply pw_below_drewN | apply below_drew1) | exact HB.out))) : w.heap.size ≤ gb101)); clear HB; have HB := n0_; have BK101 := n1_; have GW101 := n2_; have GE101 := n3_; clear n0_ n1_ n2_ n3_; clear hb hbox hg) | ((with_reducible refine gate_callee (f := 63) rfl ?_); refine goesL_ (some 7) rfl rfl Try.func63 (by kernel_rfl) rfl #[.slice A1 l1.length c1, .func (.func 137) #[] #[.pointer (some ⟨gb101, 0, none⟩)]] rfl (by (try simp only [List.map_toArray, List.map_cons, List.map_nil]); first | done | rfl | (simp only [List.length_drop, List.length_take]; rfl)) ?_; (with_reducible refine (grammar_signs_any.calls _ _ l1 gb101 #[.int .i64 a0_0, .int .i64 a0_1, .int .i64 a0_2, .slice A0_3 l0_3.length c0_3] a0_0 a0_1 t102 _ ?side1 ?side2 ?side3 ?side4 ?side5 A3.out).mono ?_); (case side1 => repeat (first | exact (Kd.C_below HR1.out HB.out) | (with_reducible refine Kd.C_alloc ?_ _) | (with_reducible refine Kd.C_drewN ?_ _) | (with_reducible refine Kd.C_drew ?_))); (case side2 => exact HC1.out); (case side3 => exact by (with_reducible repeat (first | refine blk_drewN ?_ _ | refine blk_drew ?_ | refine blk_alloc ?_ _)); exact BK101.out); (case side4 => rfl); (case side5 => rfl); rintro e w' ⟨rfl, ⟨nd, rfl⟩⟩; refine ⟨_, rfl, ?_⟩))
  go_ret
  exact ⟨by first | rfl | (simp [errW_none, errW_some] <;> rfl) | (simp [*, errW_none, errW_some] <;> rfl), by repeat (first | (with_reducible first | exact HB.out | apply below_alloc | apply pw_below_drewN | apply below_drew1 | refine below_set ?_ GE101.out) | exact HB.out)⟩

end Go.Proofs.Ythgiiikjcfhgjaa.GU
