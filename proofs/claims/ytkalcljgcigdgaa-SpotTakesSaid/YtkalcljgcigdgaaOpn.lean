import Derived.Test.YtkalcljgcigdgaaWWords
import Derived.Test.YtkalcljgcigdgaaWShare
import Derived.Test.YtkalcljgcigdgaaWMore
import Derived.Test.YtkalcljgcigdgaaWLast
import Derived.Deep.Slices
import Derived.SizedLaws
import Derived.ChangeArms
import Derived.WideShapes
import Derived.JoinedCond
/- What comes in, of any kind: a value that reads as data, read by its kind. Written by this session. -/
namespace Go.Proofs.YtkalcljgcigdgaaW.PrintWords
open Go.RowKit Go.Deep
theorem opn_weights_cons {H : Type} {P : Program} {e : TypeId} : ∀ {ds : List (DataW H)} {d : DataW H}, d ∈ ds → ∀ n ∈ d.weights P e, n ∈ DataW.weightsAll P e ds
  | d0 :: r, d, hd, n, hn => by
    simp only [DataW.weightsAll, List.mem_append]
    rcases List.mem_cons.1 hd with rfl | h
    · exact .inl hn
    · exact .inr (opn_weights_cons h n hn)
  | [], d, hd, _, _ => by simp at hd
theorem ext_len {α : Type} {R : α → List Value → Prop} {size m n : Nat} {w : World} {A : Option Addr} {ps : List α} (h : m = n) (hr : ReadsRow R size w A m ps) : ReadsRow R size w A n ps := h ▸ hr
/-- A law of a narrowed row, with what its data weigh. -/
theorem returns_cond_sized {H : Type} {enc : TypeId × Value → H} {a : Assume} {C : Checked} {os : Os} {f : FuncId} {fn : Func} {s : OpenSpec} {k : (H : Type) → List (DataW H) → Bool} (hk : s.cond = some k) {F : Stop.Interp} {conds : List PathCond} {apart fresh handsOn again : Bool}
    (own : ownKnob C.prog.godebug = none) (started : os.Started) (noInit : C.prog.inits.idxOf? f = none) (hfn : C.prog.funcs[f]? = some fn)
    (witness : ∃ (w : World) (tape : Tape) (i : Input), w.os = os ∧ (w.forCall tape i).Shaped C.prog ∧ i.vars = [] ∧ Input.okWide C.prog (w.forCall tape i) .any w.heap.size f i ∧
      s.pre6 enc C.prog fn conds apart (w.forCall tape i).memory i.args ∧ a.holds C.prog (lone (Frame.enter C.prog f i.args .normal) [] (w.forCall tape i)))
    (contract : ∀ (W : World) (base : Nat) (args : Array Value) (ds gs : List (DataW H)) (before : List MemPlace),
      (∀ (j : Nat) t v, fn.params[j]? = some t → args[j]? = some v → Value.okWide C.prog W .any base t v) →
      DataW.Whole enc C.prog fn.params.toList s.vars apart W args.toList ds gs before → k H (ds ++ gs) = true →
      (DataW.weightsEach C.prog (fn.params.toList ++ s.bare.plain.varTypes C.prog) (ds ++ gs)).all (· ≤ reachBytes) = true →
      Calls C.prog f args W fun e W' => ∃ v, e = .returned v ∧ (s.at F).post enc C.prog fn apart fresh handsOn again W args v W') :
    ReturnsInHanded a C os f .any (s.pre6 enc C.prog fn conds apart) ((s.at F).post enc C.prog fn apart fresh handsOn again) := by
  refine returnsInHanded_of_calls own started noInit witness ?_
  intro w tape i _ _ _ hok hpre _
  obtain ⟨_, _, _, fn', hfn', _, _, _, _, hval⟩ := hok
  obtain rfl : fn' = fn := Option.some.inj (hfn'.symm.trans hfn)
  obtain ⟨ds, gs, before, hw, _, hkk⟩ := (OpenSpec.pre_some hk conds apart _ _).1 hpre.1
  refine (contract (w.forCall tape i) w.heap.size i.args ds gs before hval (DataW.Whole.of_heap (w' := w.forCall tape i) (by rfl) hw) hkk (hpre.2.weights hw)).mono fun e W' ⟨v, he, hp⟩ => ?_
  subst he
  exact ChangeSpec.post_blind hp
/-- A call of a function's value, by its contract, in a region that draws its order. -/
theorem goesv_ {P : Program} {ops : Array Oper} {Q : Exit → Act → World → Prop} {oi : Oper} {N : Option Tmp} {a : Act} {w : World} {K : Act → World → Prop} {f : FuncId} {fn : Func} {o : Operand} {cap : Array Value} {as : Array Operand} {ts : Array TypeId} (hf : P.funcs[f]? = some fn) (hname : (fn.name == "runtime.NumGoroutine") = false) (hb : fn.body.isSome = true) (args : Array Value)
    (hw : Region.wanted oi (yielded ops a.tmps) = true) (hN : oi.dst = N) (hop : oi.op = .call { callee := .value o, args := as, argTypes := ts }) (hv : a.eval o = .func (.func f) #[] cap) (hargs : as.map a.eval ++ cap = args)
    (h : Calls P f args w fun e w' => ∃ v, e = .returned v ∧ K (a.put N v) w') : if Region.wanted oi (yielded ops a.tmps) = true then Oper.wp P oi a w K Q else K (a.put N undef) w := by
  refine PrintLast.call_ f args hw hN ?_ h
  have he := PrintLast.enters_ hf hname hb args w
  unfold execOp
  simp [hop, hv, resolve, Deferred.ofValue, invoke, hargs, he]
/-- Type t's values, read as data, are read by the kind d, and are as wf tells. -/
structure Opn {α : Type} (P : Program) (d : Kd α) (t : TypeId) (wf : α → Prop) : Prop where
  op : ∀ {H : Type} {enc : TypeId × Value → H} {w : World} {base : Nat} {spare : Nat → Bool} {held : Bool} {fuel : Nat} {cs : List Value} {x : DataW H × List MemPlace},
    DataW.trod enc P w base spare held fuel t cs = some x → (∀ n ∈ x.1.weights P t, n ≤ reachBytes) → ∃ y, d.K w y cs ∧ wf y
namespace Opn
theorem int {P : Program} {t : TypeId} {k : IntKind} (ht : P.underlying t = some (.int k)) : Opn P (Kd.int k) t (fun n => (Lit.int k n).wf = true) := ⟨fun h _ => by
  obtain ⟨n, rfl, _, hw⟩ := DataW.trod_int ht h
  exact ⟨n, rfl, hw⟩⟩
theorem bool {P : Program} {t : TypeId} (ht : P.underlying t = some .bool) : Opn P Kd.bool t (fun _ => True) := ⟨fun h _ => by
  obtain ⟨n, rfl, _⟩ := DataW.trod_bool ht h
  exact ⟨n, rfl, trivial⟩⟩
theorem imp {α : Type} {P : Program} {d : Kd α} {t : TypeId} {wf wf' : α → Prop} (h : Opn P d t wf) (hi : ∀ y, wf y → wf' y) : Opn P d t wf' := ⟨fun h1 h2 => by
  obtain ⟨y, hy, hw⟩ := h.op h1 h2
  exact ⟨y, hy, hi y hw⟩⟩
theorem iso {α β : Type} {P : Program} {d : Kd α} {t : TypeId} {wf : α → Prop} (f : β → α) (g : α → β) (hfg : ∀ y, f (g y) = y) (h : Opn P d t wf) : Opn P (Kd.iso d f) t (fun z => wf (f z)) := ⟨fun h1 h2 => by
  obtain ⟨y, hy, hw⟩ := h.op h1 h2
  refine ⟨g y, ?_, by rw [hfg]; exact hw⟩
  show d.K _ (f (g y)) _
  rw [hfg]
  exact hy⟩
theorem list_of {α : Type} {p : Nat → α → Prop} : ∀ {n : Nat}, (∀ i, i < n → ∃ y, p i y) → ∃ ys : List α, ys.length = n ∧ ∀ i y, ys[i]? = some y → p i y
  | 0, _ => ⟨[], rfl, fun i y h => by simp at h⟩
  | n + 1, h => by
    obtain ⟨ys, hl, hp⟩ := list_of (n := n) (fun i hi => h i (by omega))
    obtain ⟨y, hy⟩ := h n (by omega)
    refine ⟨ys ++ [y], by simp [hl], fun i z hz => ?_⟩
    rcases Nat.lt_or_ge i ys.length with hi | hi
    · rw [List.getElem?_append_left hi] at hz
      exact hp i z hz
    · have : i = n := by
        have := (List.getElem?_eq_some_iff.1 hz).1
        simp at this
        omega
      subst this
      rw [List.getElem?_append_right (by omega), hl] at hz
      simp at hz
      subst hz
      exact hy
/-- A row's data has as many elements as the row is long. -/
theorem row_len {P : Program} {e : TypeId} {H : Type} {enc : TypeId × Value → H} {w : World} {base : Nat} {spare : Nat → Bool} {held : Bool} {t : TypeId} {fuel : Nat} {A : Option Addr} {n c : Nat} {x : DataW H × List MemPlace}
    (ht : P.underlying t = some (.slice e)) (h : DataW.trod enc P w base spare held fuel t [.slice A n c] = some x) : n = 0 ∨ ∃ es sp, x.1 = .slice es sp ∧ es.length = n := by
  rcases open_slice ht h with ⟨hc, _⟩ | ⟨a, len, cap, m, n', D, Pl, hc, hb, hl, hm, hmm, rfl, hx⟩
  · injection hc with hc _
    injection hc with _ h2 _
    exact .inl h2
  · injection hc with hc _
    injection hc with _ h2 _
    exact .inr ⟨_, _, rfl, by simp [h2]⟩
theorem row {α : Type} {P : Program} {d : Kd α} {e : TypeId} {wf : α → Prop} {H : Type} {enc : TypeId × Value → H} {w : World} {base : Nat} {spare : Nat → Bool} {held : Bool} {t : TypeId} {fuel : Nat} {cs : List Value} {x : DataW H × List MemPlace} {B : Nat}
    (he : Opn P d e wf) (ht : P.underlying t = some (.slice e)) (hc : P.cellsOf e = d.sz) (hB : P.bytesOf e = B)
    (h : DataW.trod enc P w base spare held fuel t cs = some x) (hw : ∀ n ∈ x.1.weights P t, n ≤ reachBytes) :
    ∃ (A : Option Addr) (c : Nat) (ys : List α), cs = [.slice A ys.length c] ∧ ys.length ≤ c ∧ d.C w A ys.length ys ∧ (ys.length ≤ maxLen ∧ ys.length * B ≤ reachBytes ∧ ∀ y ∈ ys, wf y) := by
  rcases open_slice ht h with ⟨rfl, _⟩ | ⟨a, len, cap, m, n, D, Pl, rfl, hb, hl, hm, hmm, rfl, hx⟩
  · exact ⟨none, 0, [], rfl, Nat.le_refl _, ⟨rfl, by simp, fun hn => absurd hn (by simp)⟩, by simp, by simp, by simp⟩
  · have hlm : len ≤ m := by rw [hmm]; split <;> omega
    have hwt : ∀ n ∈ DataW.weights P t (.slice ((List.range len).map D) ((List.range (m - len)).map fun j => D (len + j))), n ≤ reachBytes := hw
    simp only [DataW.weights, ht] at hwt
    have key : ∀ i, i < len → ∃ y, (∃ cs', cs'.length = d.sz ∧ d.K w y cs' ∧ ∀ k u, cs'[k]? = some u → w.cell? (a.add (i * d.sz + k)) = some u) ∧ wf y := by
      intro i hi
      obtain ⟨cs', h1, h2⟩ := hx i (by omega)
      obtain ⟨y, hy, hwy⟩ := he.op h2 (fun n hn => hwt n (by
        refine List.mem_cons_of_mem _ (List.mem_append_left _ (opn_weights_cons (d := D i) ?_ n hn))
        exact List.mem_map.2 ⟨i, by simpa using hi, rfl⟩))
      obtain ⟨_, hlen, hcell⟩ := World.cells?_some h1
      refine ⟨y, ⟨cs', by rw [hlen, hc], hy, fun k u hu => ?_⟩, hwy⟩
      have hk : k < P.cellsOf e := by
        have := (List.getElem?_eq_some_iff.1 hu).1
        omega
      have h3 := hcell k hk
      rw [hu, hc] at h3
      have h4 : (a.add (i * d.sz)).add k = a.add (i * d.sz + k) := by
        unfold Addr.add
        by_cases z0 : i * d.sz = 0 <;> by_cases z1 : k = 0 <;> simp [z0, z1, Nat.add_assoc] <;> omega
      rw [← h4]
      exact h3
    obtain ⟨ys, hyl, hys⟩ := list_of key
    subst hyl
    refine ⟨some a, cap, ys, rfl, hl, ⟨rfl, ?_, fun _ => ⟨a, rfl, fun j p hj => ?_⟩⟩, by omega, ?_, fun y hy => ?_⟩
    · have := hm
      unfold maxLen at this
      omega
    · obtain ⟨⟨cs', c1, c2, c3⟩, _⟩ := hys j p hj
      exact ⟨cs', c1, c2, c3⟩
    · have := hwt _ List.mem_cons_self
      simp only [List.length_map, List.length_range] at this
      rw [hB] at this
      refine Nat.le_trans (Nat.mul_le_mul_right _ ?_) this
      omega
    · obtain ⟨j, hj⟩ := List.getElem?_of_mem hy
      exact (hys j y hj).2
theorem slice {α : Type} {P : Program} {d : Kd α} {e t : TypeId} {wf : α → Prop} {B : Nat} (he : Opn P d e wf) (ht : P.underlying t = some (.slice e)) (hc : P.cellsOf e = d.sz) (hB : P.bytesOf e = B) :
    Opn P (Kd.slice e d) t (fun ys => ys.length ≤ maxLen ∧ ys.length * B ≤ reachBytes ∧ ∀ y ∈ ys, wf y) := ⟨fun h hw => by
  obtain ⟨A, c, ys, rfl, hl, hC, hwf⟩ := row he ht hc hB h hw
  exact ⟨ys, ⟨A, c, rfl, hl, hC⟩, hwf⟩⟩
end Opn
/-- The same of fields in line, from the cell o on. -/
structure OpnF {α : Type} (P : Program) (d : Kd α) (fs : List Field) (o : Nat) (wf : α → Prop) : Prop where
  op : ∀ {H : Type} {enc : TypeId × Value → H} {w : World} {base : Nat} {spare : Nat → Bool} {held : Bool} {fuel : Nat} {cs : List Value} {xs : List (DataW H × List MemPlace)},
    cs.length = o + d.sz → xs.length = fs.length → (∀ (i : Nat) (f : Field), fs[i]? = some f → DataW.trod enc P w base spare held fuel f.type ((cs.drop f.offset).take (P.cellsOf f.type)) = xs[i]?) →
    (∀ n ∈ DataW.weightsEach P (fs.map (·.type)) (xs.map (·.1)), n ≤ reachBytes) → ∃ y, d.K w y (cs.drop o) ∧ wf y
namespace OpnF
theorem one {α : Type} {P : Program} {d : Kd α} {f : Field} {o : Nat} {wf : α → Prop} (h : Opn P d f.type wf) (ho : f.offset = o) (hc : P.cellsOf f.type = d.sz) : OpnF P d [f] o wf := ⟨fun {H enc w base spare held fuel cs xs} hl hx hf hw => by
  match xs, hx with
  | [x], _ =>
    have h1 := hf 0 f rfl
    simp only [List.getElem?_cons_zero] at h1
    rw [ho, hc, List.take_of_length_le (by rw [List.length_drop]; omega)] at h1
    exact h.op h1 (fun n hn => hw n (by simpa [DataW.weightsEach] using hn))⟩
theorem cons {α β : Type} {P : Program} {d : Kd α} {d' : Kd β} {f : Field} {fs : List Field} {o : Nat} {wf : α → Prop} {wf' : β → Prop} (h : Opn P d f.type wf) (ho : f.offset = o) (hc : P.cellsOf f.type = d.sz) (h' : OpnF P d' fs (o + d.sz) wf') :
    OpnF P (Kd.pair d d') (f :: fs) o (fun y => wf y.1 ∧ wf' y.2) := ⟨fun {H enc w base spare held fuel cs xs} hl hx hf hw => by
  have hsz : (Kd.pair d d').sz = d.sz + d'.sz := rfl
  match xs, hx with
  | x :: xs, hx =>
    have h1 := hf 0 f rfl
    simp only [List.getElem?_cons_zero] at h1
    rw [ho, hc] at h1
    obtain ⟨y, hy, hwy⟩ := h.op h1 (fun n hn => hw n (by
      simp only [List.map_cons, DataW.weightsEach, List.mem_append]
      exact .inl hn))
    obtain ⟨y', hy', hwy'⟩ := h'.op (cs := cs) (xs := xs) (fuel := fuel) (enc := enc) (w := w) (base := base) (spare := spare) (held := held) (by rw [hl, hsz]; omega) (by simpa using hx) (fun i g hg => by simpa using hf (i + 1) g (by simpa using hg)) (fun n hn => hw n (by
      simp only [List.map_cons, DataW.weightsEach, List.mem_append]
      exact .inr hn))
    exact ⟨(y, y'), ⟨_, _, by rw [← List.drop_drop]; exact (List.take_append_drop d.sz (cs.drop o)).symm, hy, hy'⟩, hwy, hwy'⟩⟩
end OpnF
theorem Opn.struct {α : Type} {P : Program} {d : Kd α} {t : TypeId} {fs : Array Field} {wf : α → Prop} (ht : P.underlying t = some (.struct fs)) (hc : P.cellsOf t = d.sz) (h : OpnF P d fs.toList 0 wf) : Opn P d t wf := ⟨fun {H enc w base spare held fuel cs x} hx hw => by
  obtain ⟨xs, n, _, rfl, hl, hlen, hf⟩ := DataW.trod_struct ht hx
  have hw' : ∀ n ∈ DataW.weights P t (.agg (xs.map (·.1))), n ≤ reachBytes := hw
  simp only [DataW.weights, ht] at hw'
  obtain ⟨y, hy, hwy⟩ := h.op (cs := cs) (xs := xs) (fuel := n) (enc := enc) (w := w) (base := base) (spare := spare) (held := held) (by omega) (by simpa using hlen) (fun i f hi => hf i f (by simpa using hi)) hw'
  exact ⟨y, by simpa using hy, hwy⟩⟩
/-- A parameter: its weights out of the row's. -/
theorem opn_weights {H : Type} {P : Program} {ts : List TypeId} {ds : List (DataW H)} (h : (DataW.weightsEach P ts ds).all (· ≤ reachBytes) = true) {j : Nat} {t : TypeId} {d : DataW H} (ht : ts[j]? = some t) (hd : ds[j]? = some d) : ∀ n ∈ d.weights P t, n ≤ reachBytes := fun n hn => by
  have := List.all_eq_true.1 h n (DataW.weights_mem_each ht hd n hn)
  simpa using this
/-- What came in may be shared. -/
theorem Kd.C_V {α : Type} {d : Kd α} (hd : Kd.Heap d) {e base c : Nat} {w : World} {A : Option Addr} {xs : List α} (h : d.C w A xs.length xs) (hl : xs.length ≤ c) : Kd.V d e w base (fun _ => True) (.slice A xs.length c) xs :=
  Kd.V_mono (Kd.V_mk hl (Kd.C_F hd h)) (fun _ _ => trivial)
/-- Is there a cell? A store changes nothing of that. -/
theorem cellIs_set (w : World) (p q : Addr) (u : Value) : ((w.setCell p u).cell? q).isSome = (w.cell? q).isSome := by
  by_cases e : p = q
  · subst e
    cases h : w.cell? p with
    | some v => rw [World.cell?_setCell_same w p u h]; rfl
    | none =>
      cases h2 : (w.setCell p u).cell? p with
      | none => rfl
      | some v =>
        exfalso
        simp only [World.setCell, World.cell?, Array.getElem?_modify, if_true] at h h2
        cases hh : w.heap[p.block]? with
        | none => simp [hh] at h2
        | some o =>
          cases o <;> simp [hh] at h h2
          rename_i c t f
          by_cases hs : p.spot = none
          · simp [hs] at h h2
            rw [Array.getElem?_eq_none (by simpa using h)] at h2
            simp at h2
          · simp [hs] at h2
  · rw [World.cell?_setCell_other w p q u e]
open Go.Proofs.YtkalcljgcigdgaaW.PrintLast in
/-- From here on more is shown of the world that stands. -/
theorem wider_ {P : Program} {md : Region.Mode} {ops : Array Oper} {Q : Exit → Act → World → Prop} {S S' : World → Prop} (hSS : ∀ w, S' w → S w) : ∀ {fuel : Nat} {l : Array Bool} {a : Act} {w : World}, S' w → wpAnyLast P md ops Q S' [] fuel l a w → wpAnyLast P md ops Q S [] fuel l a w
  | 0, _, _, _, _, h => h
  | fuel + 1, _, _, _, hS, h => ⟨h.1, fun i hi => wpOp_mono (fun a' w' h' => ⟨fun _ _ => hSS _ (h'.1 (by simp) hS), wider_ hSS (h'.1 (by simp) hS) h'.2⟩) (h.2 i hi)⟩
end Go.Proofs.YtkalcljgcigdgaaW.PrintWords
