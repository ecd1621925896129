/- A map of the call's own whose elements are any values: what it says is a function of the key (this session's own words). -/
import Derived.Maps.OwnSet
import Derived.Maps.Views
import Derived.DeepKeys4
import Derived.WalkKit
namespace Go.Proofs.Ythgiiikjcfhgjaa.Mv
open Go.ChangeMaps Go.MapKept
open Go.Maps (Keyed)
/-- How an element of a map is kept in mind: as the value itself. -/
def R (v : Value) : Option (DataW Value × List MemPlace) := some (.held v, [])
/-- Block b of w is a map of at most n entries, which says f. -/
def Map (w : World) (P : Program) (k : TypeId) (b n : Nat) (f : Lit → Option Value) : Prop :=
  ∃ D : DataW Value, w.ownsMap P k R b n D ∧ Maps.Tidy D ∧ ∀ l, Maps.has D l = (f l).isSome ∧ ∀ z, D.atKey l z = match f l with | some v => .held v | none => z
open Classical in
/-- What the map says behind a store. -/
noncomputable def put (f : Lit → Option Value) (kl : Lit) (v : Value) : Lit → Option Value := fun l => if l = kl then some v else f l
theorem put_same (f : Lit → Option Value) (kl : Lit) (v : Value) : put f kl v kl = some v := by simp [put]
theorem put_other {f : Lit → Option Value} {kl l : Lit} {v : Value} (h : l ≠ kl) : put f kl v l = f l := by simp [put, h]
section
variable {P : Program} {k t e : TypeId} {w w' : World} {b n : Nat} {f : Lit → Option Value}
theorem made (w : World) (P : Program) (k : TypeId) : Map (w.alloc (.map #[] 0)) P k w.heap.size 0 (fun _ => none) :=
  ⟨.map [], World.ownsMap_made w P k _, Maps.tidy_empty, fun l => ⟨by simp [Maps.has], fun z => Maps.atKey_of_not_has (by simp [Maps.has]) z⟩⟩
theorem mono (h : Map w P k b n f) {m : Nat} (hm : n ≤ m) : Map w P k b m f := by
  obtain ⟨D, h1, h2⟩ := h
  exact ⟨D, h1.mono hm, h2⟩
theorem lt (h : Map w P k b n f) : b < w.heap.size := by
  obtain ⟨D, h1, h2⟩ := h
  exact h1.lt
theorem kept {row : Option Nat} (h : Map w P k b n f) (hg : w.grownBy w' row) (hne : some b ≠ row) : Map w' P k b n f := by
  obtain ⟨D, h1, h2⟩ := h
  exact ⟨D, h1.kept hg hne, h2⟩
theorem alloc (h : Map w P k b n f) (o : Obj) : Map (w.alloc o) P k b n f := by
  obtain ⟨D, h1, h2⟩ := h
  exact ⟨D, h1.alloc o, h2⟩
theorem setCell (h : Map w P k b n f) {a : Addr} (ha : b ≠ a.block) (u : Value) : Map (w.setCell a u) P k b n f := by
  obtain ⟨D, h1, h2⟩ := h
  exact ⟨D, h1.setCell ha u, h2⟩
theorem drew (h : Map w P k b n f) : Map w.drew P k b n f := h
/-- The map's block is no block of cells. -/
theorem apart (h : Map w P k b n f) {g : Nat} {cs : Array Value} {ty : TypeId} {fr : Nat × Nat} (hb : w.heap[g]? = some (.cells cs ty fr)) : g ≠ b := by
  obtain ⟨D, ⟨es, clock, h1, _⟩, _⟩ := h
  rintro rfl
  rw [h1] at hb
  cases hb
theorem look_ok (h : Map w P k b n f) (K : Keyed P k) (ht : P.underlying t = some (.map k e)) {z : Value} (hz : ∀ w, (zeroValue e).run P w = .ok z w) {key : Value} {kl : Lit} (hkey : keyOf P k key = some kl) :
    (Instr.lookup t (.map (some b)) key true).run P w = .ok (.tuple #[(f kl).getD z, .bool (f kl).isSome]) w := by
  obtain ⟨D, h1, h2, h3⟩ := h
  obtain ⟨v, ps, hr, hv⟩ := h1.look_ok (zd := .held z) (zp := []) K ht (hz w) rfl hkey
  rw [(h3 kl).2, R] at hv
  rw [hr, (h3 kl).1]
  cases hf : f kl with
  | none => rw [hf] at hv; simp at hv; simp [hv]
  | some u => rw [hf] at hv; simp at hv; simp [hv]
theorem look (h : Map w P k b n f) (K : Keyed P k) (ht : P.underlying t = some (.map k e)) {z : Value} (hz : ∀ w, (zeroValue e).run P w = .ok z w) {key : Value} {kl : Lit} (hkey : keyOf P k key = some kl) :
    (Instr.lookup t (.map (some b)) key false).run P w = .ok ((f kl).getD z) w := by
  obtain ⟨D, h1, h2, h3⟩ := h
  obtain ⟨v, ps, hr, hv⟩ := h1.lookup (zd := .held z) (zp := []) K ht (hz w) rfl hkey
  rw [(h3 kl).2, R] at hv
  rw [hr]
  cases hf : f kl with
  | none => rw [hf] at hv; simp at hv; simp [hv]
  | some u => rw [hf] at hv; simp at hv; simp [hv]
theorem update (h : Map w P k b n f) (K : Keyed P k) (ht : P.underlying t = some (.map k e)) (hn : n < maxLen) {key : Value} (val : Value) {kl : Lit} (hkey : keyOf P k key = some kl) (hk2 : WideAt.IsKeyLit kl) :
    ∃ w', (Instr.mapUpdate t (.map (some b)) key val).run P w = .ok () w' ∧ Map w' P k b (n + 1) (put f kl val) ∧ w.grownBy w' (some b) := by
  obtain ⟨D, h1, h2, h3⟩ := h
  obtain ⟨w', hr, h4, h5⟩ := h1.update K ht hn (val := val) hkey rfl
  refine ⟨w', hr, ⟨_, h4, h4.tidy K, fun l => ?_⟩, h5⟩
  by_cases e : l = kl
  · subst e
    rw [put_same]
    exact ⟨by simp [Maps.has_put_same h2.isMap hk2], fun z => by rw [Maps.atKey_put_same h2.isMap hk2]⟩
  · rw [put_other e]
    exact ⟨by rw [Maps.has_put_other e, (h3 l).1], fun z => by rw [Maps.atKey_put_other e, (h3 l).2]⟩
variable {ops : Array Oper} {rest : List Oper} {o : Oper} {a : Act} {Q : Exit → Act → World → Prop}
/-- A store, at the operation. -/
theorem wp_update (hg : o.guard = none) (m x v : Operand) (t : TypeId) (hop : o.op = Op.mapUpdate t m x v ∨ o.op = Op.insert t m x v) (e : TypeId)
    (K : Keyed P k) (ht : P.underlying t = some (.map k e)) (hm : a.eval m = .map (some b)) (h : Map w P k b n f) (hn : n < maxLen) (key val : Value) (kl : Lit) (hx : a.eval x = key) (hv : a.eval v = val) (hkey : keyOf P k key = some kl) (hk2 : WideAt.IsKeyLit kl)
    (hK : ∀ w', Map w' P k b (n + 1) (put f kl val) → w.grownBy w' (some b) → wpList P ops Q rest (a.put o.dst undef) w') :
    wpList P ops Q (o :: rest) a w := by
  refine wpList_plain hg fun K' hK' => ?_
  obtain ⟨w', hrun, r1, r2⟩ := update h K ht hn val hkey hk2
  unfold Oper.wp
  rcases hop with hop | hop
  · simp [execOp, hop, hm, hx, hv, hrun, Result.andThen]
    exact hK' _ _ (hK w' r1 r2)
  · simp [execOp, hop, hm, hx, hv, hrun, Result.andThen]
    exact hK' _ _ (hK w' r1 r2)
end
end Go.Proofs.Ythgiiikjcfhgjaa.Mv
