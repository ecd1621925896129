import Derived.Test.YthgiiikjcfhgjaaRows
import Derived.Test.YthgiiikjcfhgjaaOpn
/- How much is read: the data's bulk bounds what a kind reads of it. Written by this session. -/
namespace Go.Proofs.Ythgiiikjcfhgjaa.Opb
open Go.RowKit Go.Deep Go.ChangeShapes Go.WideShapes Go.Proofs.YthgiiikjcfhgjaaW.PrintWords
theorem one_le {H : Type} (d : DataW H) : 1 ≤ Rows.uptoBulk d := by
  cases d with
  | lit l => cases l <;> simp [Rows.uptoBulk]
  | _ => simp [Rows.uptoBulk]
theorem part_le {H : Type} {d : DataW H} : ∀ {l : List (DataW H)}, d ∈ l → Rows.uptoBulk d ≤ Rows.uptoBulkAll l
  | x :: r, h => by
    simp only [Rows.uptoBulkAll]
    rcases List.mem_cons.1 h with e | e
    · subst e; omega
    · have := part_le e; omega
/-- What the kind d reads of a value of type t is no more than the data's bulk. -/
structure Bk {α : Type} (P : Program) (d : Kd α) (t : TypeId) (bk : α → Nat) : Prop where
  op : ∀ {H : Type} {enc : TypeId × Value → H} {w : World} {base : Nat} {spare : Nat → Bool} {held : Bool} {fuel : Nat} {cs : List Value} {x : DataW H × List MemPlace},
    DataW.trod enc P w base spare held fuel t cs = some x → ∀ y, d.K w y cs → bk y ≤ Rows.uptoBulk x.1
theorem Bk.one {α : Type} {P : Program} {d : Kd α} {t : TypeId} : Bk P d t (fun _ => 1) := ⟨fun _ _ _ => one_le _⟩
theorem Bk.iso {α β : Type} {P : Program} {d : Kd α} {t : TypeId} {bk : α → Nat} (f : β → α) (h : Bk P d t bk) : Bk P (Kd.iso d f) t (fun z => bk (f z)) := ⟨fun hx y hy => h.op hx (f y) hy⟩
theorem all_le {H : Type} {α : Type} {bk : α → Nat} {D : Nat → DataW H} : ∀ {ys : List α} {k : Nat}, (∀ i y, ys[i]? = some y → bk y ≤ Rows.uptoBulk (D (k + i))) → (ys.map bk).sum ≤ Rows.uptoBulkAll ((List.range' k ys.length).map D)
  | [], _, _ => by simp [Rows.uptoBulkAll]
  | y :: ys, k, h => by
    have h0 := h 0 y rfl
    have h1 := all_le (ys := ys) (k := k + 1) (D := D) (fun i z hz => by
      have := h (i + 1) z (by simpa using hz)
      rwa [show k + (i + 1) = k + 1 + i by omega] at this)
    simp only [List.map_cons, List.sum_cons, List.length_cons, List.range'_succ, Rows.uptoBulkAll]
    simp only [Nat.add_zero] at h0
    omega
theorem Bk.slice {α : Type} {P : Program} {d : Kd α} {e t : TypeId} {bk : α → Nat} (he : Bk P d e bk) (ht : P.underlying t = some (.slice e)) (hc : P.cellsOf e = d.sz) : Bk P (Kd.slice e d) t (fun ys => (ys.map bk).sum + 1) := ⟨fun {H enc w base spare held fuel cs x} hx ys hy => by
  obtain ⟨A, c, rfl, hl, hC⟩ := hy
  rcases open_slice ht hx with ⟨e1, _⟩ | ⟨a, len, cap, m, n, D, Pl, e1, hb, hle, hm, hmm, rfl, hxx⟩
  · injection e1 with e1 _
    injection e1 with _ h2 _
    have : ys = [] := List.eq_nil_of_length_eq_zero h2
    subst this
    have := one_le x.1
    simpa using this
  · injection e1 with e1 _
    injection e1 with hA h2 _
    subst h2
    have hlm : ys.length ≤ m := by rw [hmm]; split <;> omega
    have key : ∀ i y, ys[i]? = some y → bk y ≤ Rows.uptoBulk (D i) := by
      intro i y hi
      have hil := (List.getElem?_eq_some_iff.1 hi).1
      obtain ⟨cs', h1, h2⟩ := hxx i (by omega)
      obtain ⟨_, hlen, hcell⟩ := World.cells?_some h1
      obtain ⟨_, _, hrd⟩ := hC
      obtain ⟨a', ea, hrd⟩ := hrd (by omega)
      rw [hA] at ea
      injection ea with ea
      subst ea
      obtain ⟨c2, l2, k2, g2⟩ := hrd i y hi
      have : cs' = c2 := by
        apply List.ext_getElem?
        intro k
        by_cases hk : k < d.sz
        · have hk2 : k < c2.length := by omega
          have e2 := g2 k c2[k] (List.getElem?_eq_getElem hk2)
          have e3 := hcell k (by omega)
          have h4 : (a.add (i * d.sz)).add k = a.add (i * d.sz + k) := by
            unfold Addr.add
            by_cases z0 : i * d.sz = 0 <;> by_cases z1 : k = 0 <;> simp [z0, z1, Nat.add_assoc] <;> omega
          rw [hc, h4, e2] at e3
          rw [← e3, List.getElem?_eq_getElem hk2]
        · rw [List.getElem?_eq_none (by omega), List.getElem?_eq_none (by omega)]
      subst this
      exact he.op h2 y k2
    have := all_le (ys := ys) (k := 0) (D := D) (bk := bk) (fun i y hi => by simpa using key i y hi)
    rw [← List.range_eq_range'] at this
    simp only [Rows.uptoBulk]
    omega⟩
/-- The same of fields in line, from the cell o on. -/
structure BkF {α : Type} (P : Program) (d : Kd α) (fs : List Field) (o : Nat) (bk : α → Nat) : Prop where
  op : ∀ {H : Type} {enc : TypeId × Value → H} {w : World} {base : Nat} {spare : Nat → Bool} {held : Bool} {fuel : Nat} {cs : List Value} {xs : List (DataW H × List MemPlace)},
    cs.length = o + d.sz → xs.length = fs.length → (∀ (i : Nat) (f : Field), fs[i]? = some f → DataW.trod enc P w base spare held fuel f.type ((cs.drop f.offset).take (P.cellsOf f.type)) = xs[i]?) →
    ∀ y, d.K w y (cs.drop o) → bk y ≤ Rows.uptoBulkAll (xs.map (·.1))
theorem BkF.one {α : Type} {P : Program} {d : Kd α} {f : Field} {o : Nat} {bk : α → Nat} (h : Bk P d f.type bk) (ho : f.offset = o) (hc : P.cellsOf f.type = d.sz) : BkF P d [f] o bk := ⟨fun {H enc w base spare held fuel cs xs} hl hx hf y hy => by
  match xs, hx with
  | [x], _ =>
    have h1 := hf 0 f rfl
    simp only [List.getElem?_cons_zero] at h1
    rw [ho, hc, List.take_of_length_le (by rw [List.length_drop]; omega)] at h1
    have := h.op h1 y hy
    simpa [Rows.uptoBulkAll] using this⟩
theorem BkF.cons {α β : Type} {P : Program} {d : Kd α} {d' : Kd β} {f : Field} {fs : List Field} {o : Nat} {bk : α → Nat} {bk' : β → Nat} (h : Bk P d f.type bk) (ho : f.offset = o) (hc : P.cellsOf f.type = d.sz) (h' : BkF P d' fs (o + d.sz) bk') :
    BkF P (Kd.pair d d') (f :: fs) o (fun y => bk y.1 + bk' y.2) := ⟨fun {H enc w base spare held fuel cs xs} hl hx hf y hy => by
  have hsz : (Kd.pair d d').sz = d.sz + d'.sz := rfl
  match xs, hx with
  | x :: xs, hx =>
    have h1 := hf 0 f rfl
    simp only [List.getElem?_cons_zero] at h1
    rw [ho, hc] at h1
    obtain ⟨c1, c2, ec, k1, k2⟩ := hy
    have l1 := d.K_len k1
    have e1 : (cs.drop o).take d.sz = c1 := by rw [ec, List.take_left' l1]
    have e2 : cs.drop (o + d.sz) = c2 := by rw [← List.drop_drop, ec, List.drop_left' l1]
    rw [e1] at h1
    have b1 := h.op h1 y.1 k1
    have b2 := h'.op (cs := cs) (xs := xs) (fuel := fuel) (enc := enc) (w := w) (base := base) (spare := spare) (held := held) (by rw [hl, hsz]; omega) (by simpa using hx) (fun i g hg => by simpa using hf (i + 1) g (by simpa using hg)) y.2 (by rw [e2]; exact k2)
    simp only [List.map_cons, Rows.uptoBulkAll]
    omega⟩
theorem Bk.struct {α : Type} {P : Program} {d : Kd α} {t : TypeId} {fs : Array Field} {bk : α → Nat} (ht : P.underlying t = some (.struct fs)) (hc : P.cellsOf t = d.sz) (h : BkF P d fs.toList 0 bk) : Bk P d t (fun y => bk y + 1) := ⟨fun {H enc w base spare held fuel cs x} hx y hy => by
  obtain ⟨xs, n, _, rfl, hl, hlen, hf⟩ := DataW.trod_struct ht hx
  have := h.op (cs := cs) (xs := xs) (fuel := n) (enc := enc) (w := w) (base := base) (spare := spare) (held := held) (by omega) (by simpa using hlen) (fun i f hi => hf i f (by simpa using hi)) y (by simpa using hy)
  simp only [Rows.uptoBulk]
  omega⟩
end Go.Proofs.Ythgiiikjcfhgjaa.Opb
