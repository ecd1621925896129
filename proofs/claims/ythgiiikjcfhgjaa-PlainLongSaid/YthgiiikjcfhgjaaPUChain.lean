/- Words on tables in plain Lean: rows of signs put together, and a word's own row. -/
import Derived.Test.YthgiiikjcfhgjaaPUNames
namespace Go.Proofs.Ythgiiikjcfhgjaa.PUM
set_option linter.unusedVariables false
set_option linter.unusedSimpArgs false
open Go.RowKit Go.Proofs.Ythgiiikjcfhgjaa.GU Go.Proofs.YthgiiikjcfhgjaaW.PrintWords Go.Proofs.YthgiiikjcfhgjaaW.PrintLast Go.Proofs.YthgiiikjcfhgjaaW.PrintMore

theorem chain_word {k : Int} {w : List Int} (gw : GoodW k w) (R : Int → Nat → Nat → Prop) : ∀ (d i : Nat), i + d = w.length → ChainR k w R (w.drop i) i w.length := by
  intro d
  induction d with
  | zero =>
    intro i hi
    rw [List.drop_eq_nil_of_le (by omega)]
    show i = w.length
    omega
  | succ d ih =>
    intro i hi
    have hlt : i < w.length := by omega
    have hx := gw.2 _ (getD_mem (d := (0 : Int)) hlt)
    rw [drop_cons hlt 0]
    exact ⟨i + 1, ⟨by omega, .inr ⟨hx.2, hlt, rfl, rfl⟩⟩, ih (i + 1) (by omega)⟩
theorem chain_app {k : Int} {w : List Int} {R : Int → Nat → Nat → Prop} : ∀ {a b : List Int} {i j : Nat}, ChainR k w R (a ++ b) i j ↔ ∃ m, ChainR k w R a i m ∧ ChainR k w R b m j
  | [], b, i, j => by
    constructor
    · exact fun h => ⟨i, rfl, h⟩
    · rintro ⟨m, h, h2⟩
      have h : i = m := h
      subst h
      exact h2
  | x :: a, b, i, j => by
    constructor
    · rintro ⟨m, hs, hc⟩
      obtain ⟨m2, h1, h2⟩ := chain_app.1 hc
      exact ⟨m2, ⟨m, hs, h1⟩, h2⟩
    · rintro ⟨m2, ⟨m, hs, h1⟩, h2⟩
      exact ⟨m, hs, chain_app.2 ⟨m2, h1, h2⟩⟩
theorem chain_lt {k : Int} {w : List Int} {R : Int → Nat → Nat → Prop} : ∀ {l : List Int} {i : Nat}, ChainR k w R l i w.length → i < w.length + 1
  | [], i, h => by
    have h : i = w.length := h
    omega
  | x :: l, i, ⟨m, hs, _⟩ => hs.1
/-- One rule's use in a row leaves what the row makes. -/
theorem chain_use {k n s : Int} {w : List Int} {rs : List S126} {R : Int → Nat → Nat → Prop} (g : GoodG k n s rs) (hc : ClosedR k w rs R) {r : S126} (hr : r ∈ rs) {a b : List Int} {i : Nat} (h : ChainR k w R (a ++ r.f1 ++ b) i w.length) : ChainR k w R (a ++ (k + r.f0) :: b) i w.length := by
  rw [List.append_assoc, chain_app] at h
  obtain ⟨m, h1, h2⟩ := h
  have hm := chain_lt h2
  obtain ⟨m2, h3, h4⟩ := chain_app.1 h2
  have h0 := (g.rule r hr).l0
  refine chain_app.2 ⟨m, h1, m2, ⟨hm, .inl ⟨by omega, ?_⟩⟩, h4⟩
  have := hc r hr m m2 hm h3
  rw [show k + r.f0 - k = r.f0 by omega]
  exact this
end Go.Proofs.Ythgiiikjcfhgjaa.PUM
