/- Words on tables in plain Lean: table.fill's rounds. Conditions: grammar and word are good. -/
import Derived.Test.YthgiiikjcfhgjaaPUFill
namespace Go.Proofs.Ythgiiikjcfhgjaa.PUM
set_option linter.unusedVariables false
set_option linter.unusedSimpArgs false
open Go.RowKit Go.Proofs.Ythgiiikjcfhgjaa.GU Go.Proofs.YthgiiikjcfhgjaaW.PrintWords Go.Proofs.YthgiiikjcfhgjaaW.PrintLast Go.Proofs.YthgiiikjcfhgjaaW.PrintMore

/-- A family that the rules do not leave. -/
def ClosedR (k : Int) (w : List Int) (rs : List S126) (R : Int → Nat → Nat → Prop) : Prop := ∀ r ∈ rs, ∀ i j, i < w.length + 1 → ChainR k w R r.f1 i j → R r.f0 i j
def Sound (k : Int) (w : List Int) (rs : List S126) (T : List (List Int)) : Prop := ∀ R, ClosedR k w rs R → ∀ x i j, 0 ≤ x → famT T x i j → R x i j
structure Pass (k n : Int) (w : List Int) (rs : List S126) (T0 T : List (List Int)) (b : Bool) (done : S126 → Nat → Prop) : Prop where
  tab : Tab n (w.length + 1) T
  sound : Sound k w rs T
  up : pot T0 ≤ pot T
  flag : (b = false ∧ T = T0 ∧ ∀ r i, done r i → Sub (endsE k w T0 r.f1 (2 ^ i)) (tb T0 r.f0 i)) ∨ (b = true ∧ pot T0 < pot T)
theorem pass_step {k n s : Int} {w : List Int} {rs : List S126} {T0 T : List (List Int)} {b : Bool} {done : S126 → Nat → Prop} (g : GoodG k n s rs) (hw : w.length ≤ 12) (P : Pass k n w rs T0 T b done) {r : S126} (hr : r ∈ rs) {i : Nat} (hi : i < w.length + 1) (he : endsE k w T r.f1 (2 ^ i) < 2 ^ (w.length + 1)) :
    Pass k n w rs T0 (updT T r.f0.toNat i (endsE k w T r.f1 (2 ^ i))) (if b = true then true else (Go.bits .andNot .u32 ((endsE k w T r.f1 (2 ^ i) : Nat) : Int) ((tb T r.f0 i : Nat) : Int) != 0)) (fun r' i' => done r' i' ∨ (r' = r ∧ i' = i)) := by
  have gr := g.rule r hr
  have h0 := gr.l0
  have h1 := gr.l1
  have hx : (r.f0.toNat : Int) < n := by omega
  have hxe : (r.f0.toNat : Int) = r.f0 := by omega
  have hp := pow_le13 (m := w.length + 1) (by omega)
  have ht := tb_lt P.tab h0 h1 hi
  have hpot := pot_upd P.tab (e := endsE k w T r.f1 (2 ^ i)) hx hi
  rw [hxe] at hpot
  have hle : tb T r.f0 i ≤ tb T r.f0 i ||| endsE k w T r.f1 (2 ^ i) := Nat.left_le_or
  have hp0 := P.up
  refine ⟨tab_upd P.tab hx hi he, fun R hR x i' j x0 hf => ?_, by omega, ?_⟩
  · unfold famT at hf
    rw [tb_upd P.tab hx hi x0, hxe] at hf
    by_cases c : x = r.f0 ∧ i' = i
    · rw [if_pos c, Nat.testBit_or, Bool.or_eq_true] at hf
      obtain ⟨rfl, rfl⟩ := c
      rcases hf with hf | hf
      · exact P.sound R hR _ _ _ x0 hf
      · exact hR r hr i' j hi ((endsE_one.1 hf).mono (P.sound R hR))
    · rw [if_neg c] at hf
      exact P.sound R hR _ _ _ x0 hf
  · rcases P.flag with ⟨hb, hT, hd⟩ | ⟨hb, hT⟩
    · subst hb
      rw [if_neg (by decide)]
      by_cases c : Sub (endsE k w T r.f1 (2 ^ i)) (tb T r.f0 i)
      · left
        refine ⟨by rw [andNot_zero (by omega) (by omega) c]; rfl, ?_, fun r' i' h => ?_⟩
        · rw [upd_same P.tab hx hi (by rw [hxe]; exact c), hT]
        · rcases h with h | ⟨rfl, rfl⟩
          · exact hd _ _ h
          · rw [← hT]; exact c
      · right
        refine ⟨?_, ?_⟩
        · rw [bne_iff_ne]
          exact fun h => c (sub_of_andNot (by omega) (by omega) h)
        · have := lt_or c
          omega
    · right
      rw [if_pos hb]
      exact ⟨rfl, by omega⟩
theorem Pass.weaken {k n : Int} {w : List Int} {rs : List S126} {T0 T : List (List Int)} {b : Bool} {done done' : S126 → Nat → Prop} (P : Pass k n w rs T0 T b done) (h : ∀ r i, done' r i → done r i) : Pass k n w rs T0 T b done' :=
  ⟨P.tab, P.sound, P.up, P.flag.imp (fun h2 => ⟨h2.1, h2.2.1, fun r i h3 => h2.2.2 r i (h r i h3)⟩) id⟩
theorem fill_l3 {k n s : Int} {w : List Int} {rs : List S126} {T0 : List (List Int)} (g : GoodG k n s rs) (hw : w.length ≤ 12) {r : S126} (hr : r ∈ rs) (L p : Int) : ∀ (d i : Nat) (T : List (List Int)) (b : Bool) (done : S126 → Nat → Prop), i + d = w.length + 1 → Pass k n w rs T0 T b done →
    ∃ T' b', Pass k n w rs T0 T' b' (fun r' i' => done r' i' ∨ (r' = r ∧ i ≤ i' ∧ i' < w.length + 1)) ∧ ∀ res, Ev (fun q => table_fill.l2 q w T' b' rs L (wrap64 (p + 1)) k n s rs) res → Ev (fun q => table_fill.l3 q w T b rs L p ((w.length + 1 : Nat) : Int) (i : Int) k n s rs r.f0 r.f1) res := by
  have gr := g.rule r hr
  have h0 := gr.l0
  have h1 := gr.l1
  have hsm := g.small r hr
  have hp := pow_le13 (m := w.length + 1) (by omega)
  intro d
  induction d with
  | zero =>
    intro i T b done hi P
    refine ⟨T, b, P.weaken (fun r' i' h => ?_), fun res hres => ?_⟩
    · rcases h with h | ⟨_, h2, h3⟩
      · exact h
      · omega
    · refine Ev.step (fun q => by rw [table_fill.l3]) ?_
      refine Ev.neg (by omega) ?_
      exact hres
  | succ d ih =>
    intro i T b done hi P
    have hpi : 2 ^ i < 2 ^ (w.length + 1) := Nat.pow_lt_pow_right (by omega) (by omega)
    obtain ⟨he, hev⟩ := ends_good (s := s) (rs := rs) g.k1 g.k3 g.n5 hw P.tab r.f1 (by omega) gr.sg hpi
    have P2 := pass_step g hw P hr (i := i) (by omega) he
    obtain ⟨T', b', P3, h3⟩ := ih (i + 1) _ _ _ (by omega) P2
    refine ⟨T', b', P3.weaken (fun r' i' h => ?_), fun res hres => ?_⟩
    · rcases h with h | ⟨h2, h4, h5⟩
      · exact .inl (.inl h)
      · rcases Nat.lt_or_ge i i' with h6 | h6
        · exact .inr ⟨h2, by omega, h5⟩
        · exact .inl (.inr ⟨h2, by omega⟩)
    · have hr3 := h3 res hres
      have ht := tb_lt P.tab h0 h1 (i := i) (by omega)
      have hl := P.tab.len
      have hu : (T.set r.f0.toNat ((rd_L4 T r.f0).set (i : Int).toNat (Go.bits .or .u32 (rd (rd_L4 T r.f0) (i : Int)) ((endsE k w T r.f1 (2 ^ i) : Nat) : Int)))) = updT T r.f0.toNat i (endsE k w T r.f1 (2 ^ i)) := by
        rw [show rd_L4 T r.f0 = T.getD r.f0.toNat [] from rfl, rd_nat, ht.2.1, u32_or_nat _ _ (by omega) (by omega)]
        rfl
      refine Ev.step (fun q => by rw [table_fill.l3]) ?_
      refine Ev.pos (by omega) ?_
      refine Ev.pos (by omega) ?_
      rw [shl_one (by omega) (by omega), pow_cast, Int.toNat_natCast]
      refine Ev.bind hev ?_
      rw [w64 (n := (i : Int) + 1) (by omega) (by omega), show rd_L4 T r.f0 = T.getD r.f0.toNat [] from rfl] at *
      by_cases cb : b = true
      · refine Ev.pos cb ?_
        refine Ev.pos h0 ?_
        refine Ev.pos (by omega) ?_
        refine Ev.pos (by omega) ?_
        rw [Int.toNat_natCast] at hu
        rw [hu]
        rw [if_pos cb] at hr3
        exact hr3
      · refine Ev.neg cb ?_
        refine Ev.pos h0 ?_
        refine Ev.pos (by omega) ?_
        refine Ev.pos (by omega) ?_
        rw [Int.toNat_natCast] at hu
        rw [hu, rd_nat, ht.2.1]
        rw [if_neg cb] at hr3
        exact hr3
end Go.Proofs.Ythgiiikjcfhgjaa.PUM
