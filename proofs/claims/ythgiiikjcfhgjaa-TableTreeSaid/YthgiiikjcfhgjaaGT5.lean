-- Written by ext.py, a program of this session.
import Derived.Test.YthgiiikjcfhgjaaGT0
import Derived.Test.YthgiiikjcfhgjaaGT3
import Derived.Test.YthgiiikjcfhgjaaGT4
namespace Go.Proofs.Ythgiiikjcfhgjaa.GT
open Go.RowKit Go.Proofs.YthgiiikjcfhgjaaW.PrintWords Go.Proofs.YthgiiikjcfhgjaaW.PrintLast Go.Proofs.YthgiiikjcfhgjaaW.PrintMore
attribute [local go_sem] max2_int min2_int max_two min_two max_three min_three max_four min_four cellIs_set   -- for this text's walks alone
set_option linter.unusedVariables false
set_option linter.unusedSimpArgs false

/-! ### table_Trees: function 27 -/
set_option maxRecDepth 100000 in
theorem tC.laidOut : laidOutB Try.prog = true := by kernel_rfl
set_option maxRecDepth 100000 in
theorem tC.row : (179 : TypeId) < Try.prog.types.size := of_decide_eq_true (by kernel_rfl)
set_option maxRecDepth 100000 in
theorem tC.wide : (match Try.prog.underlying 179 with | some (.array _ _) | some (.struct _) => true | _ => false) = true := by rw [Try.underlying179]
set_option maxRecDepth 100000 in
theorem tC.kt : Try.prog.keyTypeAt 2 179 = true := by kernel_rfl
set_option maxRecDepth 100000 in
theorem tC.law : Go.Maps.Keyed Try.prog 179 := Go.Maps.Keyed.of_law (deep_law_laid tC.laidOut (m := 2) (by omega) tC.row tC.kt tC.wide)
set_option maxRecDepth 100000 in
theorem tC.und : Try.prog.underlying 171 = some (.map 179 2) := by kernel_rfl
set_option maxRecDepth 100000 in
theorem tC.size : Try.prog.types.size = (Try.prog.types.size - 2) + 1 + 1 := by
  have : (179 : Nat) < Try.prog.types.size := tC.row
  omega
def tC.kv (a b c d : Int) : Value := .agg #[.int .i64 a, .int .i64 b, .int .i64 c, .int .i64 d]
def tC.kl (a b c d : Int) : Lit := .string (keyBytes [.int .i64 a, .int .i64 b, .int .i64 c, .int .i64 d])
set_option maxRecDepth 100000 in
theorem tC.key {a b c d : Int} (ha : (Lit.int .i64 a).wf = true) (hb : (Lit.int .i64 b).wf = true) (hc : (Lit.int .i64 c).wf = true) (hd : (Lit.int .i64 d).wf = true) : keyOf Try.prog 179 (tC.kv a b c d) = some (tC.kl a b c d) := by
  have h1 : Try.prog.cellsOf 179 = 4 := by kernel_rfl
  have h2 : Try.prog.keyType 179 = true := by kernel_rfl
  have h3 : Try.prog.cellsOf 3 = 1 := by kernel_rfl
  unfold keyOf tC.kv
  simp only [Try.underlying179]
  rw [if_pos (by simp [h2, Value.formed, Try.underlying179, h1])]
  unfold Program.keyLits
  simp only [Try.underlying179, Value.cells]
  rw [if_pos (by rw [h1]; exact ⟨rfl, by kernel_rfl⟩), tC.size]
  simp only [List.mapM_cons, List.mapM_nil, h3, Program.keyLits, Try.underlying3, List.drop, List.take]
  simp [ha, hb, hc, hd, tC.kl]
set_option maxRecDepth 100000 in
theorem tC.inj {a b c d a' b' c' d' : Int} (ha : (Lit.int .i64 a).wf = true) (hb : (Lit.int .i64 b).wf = true) (hc : (Lit.int .i64 c).wf = true) (hd : (Lit.int .i64 d).wf = true) (ha' : (Lit.int .i64 a').wf = true) (hb' : (Lit.int .i64 b').wf = true) (hc' : (Lit.int .i64 c').wf = true) (hd' : (Lit.int .i64 d').wf = true) (h : tC.kl a b c d = tC.kl a' b' c' d') : a = a' ∧ b = b' ∧ c = c' ∧ d = d' := by
  have := tC.law.inj (tC.key ha hb hc hd) (h ▸ tC.key ha' hb' hc' hd')
  simpa [tC.kv] using this
set_option maxRecDepth 100000 in
theorem tC.zero (w : World) : (zeroValue 2).run Try.prog w = .ok (.int .i64 0) w := by kernel_rfl
theorem tC.nodup_sub {α : Type} : ∀ (M L : List α), M.Nodup → M ⊆ L → M.length ≤ L.length := by
  classical
  intro M
  induction M with
  | nil => intro L _ _; simp
  | cons x M ih =>
    intro L hn hs
    rw [List.nodup_cons] at hn
    have hx : x ∈ L := hs List.mem_cons_self
    have := ih (L.erase x) hn.2 (fun y hy => (List.mem_erase_of_ne (fun e : y = x => hn.1 (e ▸ hy))).2 (hs (List.mem_cons_of_mem _ hy)))
    rw [List.length_erase_of_mem hx] at this
    have hp : 0 < L.length := List.length_pos_of_mem hx
    rw [List.length_cons]
    omega
theorem tC.wf {a : Int} (h0 : -9223372036854775808 ≤ a) (h1 : a ≤ 9223372036854775807) : (Lit.int .i64 a).wf = true := by simp [Lit.wf, IntKind.min, IntKind.max, IntKind.signed, IntKind.bits]; omega
/-- What the map says: for some stretches what is counted over them. -/
structure tC.Good (val : Int → Int → Int → Int → Int → Prop) (D : DataW Unit) : Prop where
  m : Go.Maps.Tidy D
  keyed : ∀ es, D = .map es → ∀ p ∈ es, p.1.sameKey p.1 = true
  g : ∀ l, Go.Maps.has D l = true → ∃ a b c d v : Int, (0 ≤ a ∧ a < 16 ∧ 0 ≤ b ∧ b < 16 ∧ 0 ≤ c ∧ c < 16 ∧ 0 ≤ d ∧ d < 16) ∧ l = tC.kl a b c d ∧ val a b c d v ∧ ∀ z, D.atKey l z = .lit (.int .i64 v)
theorem tC.good_nil (val : Int → Int → Int → Int → Int → Prop) : tC.Good val (.map []) := ⟨Go.Maps.tidy_empty, fun es e p hp => by injection e with e; subst e; simp at hp, fun l h => by simp [Go.Maps.has] at h⟩
theorem tC.good_put {val : Int → Int → Int → Int → Int → Prop} {D : DataW Unit} (h : tC.Good val D) {a b c d v : Int} (hr : 0 ≤ a ∧ a < 16 ∧ 0 ≤ b ∧ b < 16 ∧ 0 ≤ c ∧ c < 16 ∧ 0 ≤ d ∧ d < 16) (hv : val a b c d v) (ht : Go.Maps.Tidy (D.put (tC.kl a b c d) (.lit (.int .i64 v)))) (hk2 : ∀ es, D.put (tC.kl a b c d) (.lit (.int .i64 v)) = .map es → ∀ p ∈ es, p.1.sameKey p.1 = true) : tC.Good val (D.put (tC.kl a b c d) (.lit (.int .i64 v))) := by
  have hk : WideAt.IsKeyLit (tC.kl a b c d) := trivial
  refine ⟨ht, hk2, fun l hl => ?_⟩
  by_cases e : l = tC.kl a b c d
  · subst e
    exact ⟨a, b, c, d, v, hr, rfl, hv, fun z => Go.Maps.atKey_put_same h.m.isMap hk _ _⟩
  · rw [Go.Maps.has_put_other e] at hl
    obtain ⟨a', b', c', d', v', r, e2, hv', hat⟩ := h.g l hl
    exact ⟨a', b', c', d', v', r, e2, hv', fun z => by rw [Go.Maps.atKey_put_other e]; exact hat z⟩
theorem tC.good_size {val : Int → Int → Int → Int → Int → Prop} {D : DataW Unit} (h : tC.Good val D) : Go.Maps.size D ≤ 65536 := by
  obtain ⟨es, rfl, hp⟩ := h.m
  rw [Go.Maps.size_eq]
  have hn : (es.map (·.1)).Nodup := by
    rw [List.Nodup, List.pairwise_map]
    exact hp
  have hs : es.map (·.1) ⊆ (List.range 65536).map (fun n => tC.kl ((n / 4096 : Nat) : Int) ((n / 256 % 16 : Nat) : Int) ((n / 16 % 16 : Nat) : Int) ((n % 16 : Nat) : Int)) := by
    intro l hl
    obtain ⟨p, hpm, rfl⟩ := List.mem_map.1 hl
    have hh : Go.Maps.has (.map es : DataW Unit) p.1 = true ∨ p.1.sameKey p.1 = false := by
      by_cases hk : p.1.sameKey p.1 = true
      · left
        rw [Go.Maps.has_eq, List.any_eq_true]
        exact ⟨p, hpm, hk⟩
      · right
        simpa using hk
    rcases hh with hh | hh
    · obtain ⟨a, b, c, d, v, r, e2, _, _⟩ := h.g p.1 hh
      obtain ⟨A, rfl⟩ := Int.eq_ofNat_of_zero_le r.1
      obtain ⟨B, rfl⟩ := Int.eq_ofNat_of_zero_le r.2.2.1
      obtain ⟨C, rfl⟩ := Int.eq_ofNat_of_zero_le r.2.2.2.2.1
      obtain ⟨E, rfl⟩ := Int.eq_ofNat_of_zero_le r.2.2.2.2.2.2.1
      rw [List.mem_map]
      refine ⟨A * 4096 + B * 256 + C * 16 + E, by rw [List.mem_range]; omega, ?_⟩
      rw [e2]
      congr 2 <;> omega
    · exact absurd (h.keyed es rfl p hpm) (by rw [hh]; simp)
  have := tC.nodup_sub _ _ hn hs
  rw [List.length_map, List.length_map, List.length_range] at this
  exact this
theorem tC.at_none {D : DataW Unit} {l : Lit} {z : DataW Unit} (h : Go.Maps.has D l = false) : D.atKey l z = z := Go.Maps.atKey_of_not_has h z
/-- The map of a Count, of its own and right. -/
def tC.Own (val : Int → Int → Int → Int → Int → Prop) (wr : World) (mb : Nat) : Prop := ∃ D : DataW Unit, wr.ownsMap Try.prog 179 (plainElem Try.prog 2) mb 65536 D ∧ tC.Good val D
theorem tC.own_put {val : Int → Int → Int → Int → Int → Prop} {wr : World} {mb : Nat} {D : DataW Unit} (h : tC.Good val D) {a b c d v : Int} (hr : 0 ≤ a ∧ a < 16 ∧ 0 ≤ b ∧ b < 16 ∧ 0 ≤ c ∧ c < 16 ∧ 0 ≤ d ∧ d < 16) (hv : val a b c d v) (ho : wr.ownsMap Try.prog 179 (plainElem Try.prog 2) mb (65536 + 1) (D.put (tC.kl a b c d) (.lit (.int .i64 v)))) : tC.Own val wr mb := by
  have hg := tC.good_put h hr hv (ho.tidy tC.law) (fun es e p hp => by
    obtain ⟨es', e', _, hk⟩ := ho.entries tC.law
    rw [e] at e'
    injection e' with e'
    subst e'
    exact WideAt.sameKey_self (hk p hp))
  refine ⟨_, ?_, hg⟩
  have hs := tC.good_size hg
  obtain ⟨es, clock, h1, h2, h3, h4⟩ := ho
  refine ⟨es, clock, h1, h2, ?_, h4⟩
  rw [h4, Go.Maps.size_eq, length_sorted, List.length_map] at hs
  simpa using hs
theorem tC.own_kept {val : Int → Int → Int → Int → Int → Prop} {w w' : World} {mb : Nat} {row : Option Nat} (h : tC.Own val w mb) (hg : w.grownBy w' row) (hne : some mb ≠ row) : tC.Own val w' mb := by
  obtain ⟨D, h1, h2⟩ := h
  exact ⟨D, h1.kept hg hne, h2⟩
mutual
def table_Count.rest : Nat → Int → List S126 → List Int → Int → Int → Int → Int → Option Int
  | 0, _, _, _, _, _, _, _ => none
  | q + 1, K, rules, ws, rule, dot, fr, en =>
    if 0 ≤ rule ∧ rule < (rules.length : Int) ∧ rules.length ≤ 10 ∧ 0 ≤ dot ∧ dot ≤ ((rd_T126 rules rule).f1.length : Int) ∧ (rd_T126 rules rule).f1.length ≤ 4 ∧ 0 ≤ fr ∧ fr ≤ en ∧ en ≤ (ws.length : Int) ∧ ws.length ≤ 12 then
      (if en - fr < ((rd_T126 rules rule).f1.length : Int) - dot ∨ ((rd_T126 rules rule).f1.length : Int) = dot then some (if ((rd_T126 rules rule).f1.length : Int) = dot ∧ fr = en then 1 else 0)
      else (table_Count.restL q K rules ws rule dot fr en (fr + 1) 0).bind fun r => if 0 ≤ r ∧ r ≤ 1099511627777 then some r else none)
    else none
def table_Count.restL : Nat → Int → List S126 → List Int → Int → Int → Int → Int → Int → Int → Option Int
  | 0, _, _, _, _, _, _, _, _, _ => none
  | q + 1, K, rules, ws, rule, dot, fr, en, mid, sum =>
    if mid ≤ en - (((rd_T126 rules rule).f1.length : Int) - dot) + 1 then
      (if ((rd_T126 rules rule).f1.length : Int) - dot = 1 ∧ mid < en then table_Count.restL q K rules ws rule dot fr en (mid + 1) sum
      else (table_Count.rest q K rules ws rule (dot + 1) mid en).bind fun n =>
        if n > 0 then (table_Count.sign q K rules ws (rd (rd_T126 rules rule).f1 dot) fr mid).bind fun s => (table_times.f s n).bind fun t => table_Count.restL q K rules ws rule dot fr en (mid + 1) (mn (wrap64 (sum + t)) 1099511627777)
        else table_Count.restL q K rules ws rule dot fr en (mid + 1) sum)
    else some sum
def table_Count.sign : Nat → Int → List S126 → List Int → Int → Int → Int → Option Int
  | 0, _, _, _, _, _, _ => none
  | q + 1, K, rules, ws, x, fr, en =>
    if 0 ≤ fr ∧ fr ≤ en ∧ en ≤ (ws.length : Int) ∧ ws.length ≤ 12 ∧ rules.length ≤ 10 then
      (if x < K then some (if en = fr + 1 ∧ rd ws fr = x then 1 else 0)
      else table_Count.signL q K rules ws x fr en 0 0)
    else none
def table_Count.signL : Nat → Int → List S126 → List Int → Int → Int → Int → Int → Int → Option Int
  | 0, _, _, _, _, _, _, _, _ => none
  | q + 1, K, rules, ws, x, fr, en, i, sum =>
    if i < (rules.length : Int) then
      (if (rd_T126 rules i).f0 = wrap64 (x - K) then (table_Count.rest q K rules ws i 0 fr en).bind fun n => table_Count.signL q K rules ws x fr en (i + 1) (wrap64 (sum + n))
      else table_Count.signL q K rules ws x fr en (i + 1) sum)
    else some (mn sum 1099511627777)
end
theorem table_Count.mono (K : Int) (rules : List S126) (ws : List Int) : ∀ q,
    (∀ a b c d, LeO (table_Count.rest q K rules ws a b c d) (table_Count.rest (q + 1) K rules ws a b c d)) ∧
    (∀ a b c d e f, LeO (table_Count.restL q K rules ws a b c d e f) (table_Count.restL (q + 1) K rules ws a b c d e f)) ∧
    (∀ a b c, LeO (table_Count.sign q K rules ws a b c) (table_Count.sign (q + 1) K rules ws a b c)) ∧
    (∀ a b c d e, LeO (table_Count.signL q K rules ws a b c d e) (table_Count.signL (q + 1) K rules ws a b c d e)) := by
  intro q
  induction q with
  | zero =>
    refine ⟨fun a b c d r h => ?_, fun a b c d e f r h => ?_, fun a b c r h => ?_, fun a b c d e r h => ?_⟩
    · rw [table_Count.rest] at h; cases h
    · rw [table_Count.restL] at h; cases h
    · rw [table_Count.sign] at h; cases h
    · rw [table_Count.signL] at h; cases h
  | succ q ih =>
    obtain ⟨i1, i2, i3, i4⟩ := ih
    refine ⟨fun a b c d => ?_, fun a b c d e f => ?_, fun a b c => ?_, fun a b c d e => ?_⟩
    · rw [table_Count.rest, table_Count.rest]
      split
      · split
        · exact LeO.refl _
        · exact LeO.bind (i2 _ _ _ _ _ _) (fun _ => LeO.refl _)
      · exact LeO.refl _
    · rw [table_Count.restL, table_Count.restL]
      split
      · split
        · exact i2 _ _ _ _ _ _
        · refine LeO.bind (i1 _ _ _ _) (fun n => ?_)
          split
          · exact LeO.bind (i3 _ _ _) (fun _ => LeO.bind (LeO.refl _) (fun _ => i2 _ _ _ _ _ _))
          · exact i2 _ _ _ _ _ _
      · exact LeO.refl _
    · rw [table_Count.sign, table_Count.sign]
      split
      · split
        · exact LeO.refl _
        · exact i4 _ _ _ _ _
      · exact LeO.refl _
    · rw [table_Count.signL, table_Count.signL]
      split
      · split
        · exact LeO.bind (i1 _ _ _ _) (fun _ => i4 _ _ _ _ _)
        · exact i4 _ _ _ _ _
      · exact LeO.refl _
theorem table_Count.rest_le {K : Int} {rules : List S126} {ws : List Int} {a b c d v : Int} {q : Nat} (h : table_Count.rest q K rules ws a b c d = some v) : ∀ m, table_Count.rest (q + m) K rules ws a b c d = some v
  | 0 => h
  | m + 1 => (table_Count.mono K rules ws (q + m)).1 a b c d v (table_Count.rest_le h m)
theorem table_Count.rest_one {K : Int} {rules : List S126} {ws : List Int} {a b c d v v' : Int} {q q' : Nat} (h : table_Count.rest q K rules ws a b c d = some v) (h' : table_Count.rest q' K rules ws a b c d = some v') : v = v' := by
  have h1 := table_Count.rest_le h q'
  have h2 := table_Count.rest_le h' q
  rw [Nat.add_comm] at h2
  exact Option.some.inj (h1.symm.trans h2)
theorem tC.grown_drew {w w' : World} {row : Option Nat} (h : w.grownBy w' row) (n : Nat) : w.grownBy (w'.drewN n) row := ⟨h.os, h.tape, h.output, h.size, h.block⟩
structure tC.St (w0 : World) (gb mb : Nat) (K N S0 : Int) (A AW : Option Addr) (cR cW : Nat) (rules : List S126) (ws : List Int) (wr : World) : Prop where
  below : Below w0.heap.size w0 wr
  blk : wr.heap[gb]? = some (.cells #[.int .i64 K, .int .i64 N, .int .i64 S0, .slice A rules.length cR, .slice AW ws.length cW, .map (some mb)] 173 (0, 0))
  own : tC.Own (fun a b c d v => ∃ q, table_Count.rest q K rules ws a b c d = some v) wr mb
theorem tC.St.kept {w0 : World} {gb mb : Nat} {K N S0 : Int} {A AW : Option Addr} {cR cW : Nat} {rules : List S126} {ws : List Int} {w w' : World} (h : tC.St w0 gb mb K N S0 A AW cR cW rules ws w) (hg : w.grownBy w' none) : tC.St w0 gb mb K N S0 A AW cR cW rules ws w' :=
  ⟨Below.grown h.below hg (below_size h.below) (fun k e => by cases e), blk_grown h.blk hg (by simp), tC.own_kept h.own hg (by simp)⟩
def tC.RestSpec (w0 : World) (gb mb : Nat) (K N S0 : Int) (A AW : Option Addr) (cR cW : Nat) (rules : List S126) (ws : List Int) (q : Nat) : Prop :=
  ∀ (rule dot fr en r : Int) (w : World), table_Count.rest q K rules ws rule dot fr en = some r → tC.St w0 gb mb K N S0 A AW cR cW rules ws w →
    Calls Try.prog 78 #[.pointer (some ⟨gb, 0, none⟩), .int .i64 rule, .int .i64 dot, .int .i64 fr, .int .i64 en] w fun e w' => e = .returned (.int .i64 r) ∧ tC.St w0 gb mb K N S0 A AW cR cW rules ws w' ∧ w.grownBy w' (some mb)
def tC.SignSpec (w0 : World) (gb mb : Nat) (K N S0 : Int) (A AW : Option Addr) (cR cW : Nat) (rules : List S126) (ws : List Int) (q : Nat) : Prop :=
  ∀ (x fr en r : Int) (w : World), table_Count.sign q K rules ws x fr en = some r → tC.St w0 gb mb K N S0 A AW cR cW rules ws w →
    Calls Try.prog 74 #[.pointer (some ⟨gb, 0, none⟩), .int .i64 x, .int .i64 fr, .int .i64 en] w fun e w' => e = .returned (.int .i64 r) ∧ tC.St w0 gb mb K N S0 A AW cR cW rules ws w' ∧ w.grownBy w' (some mb)
theorem tC.St.apart {w0 : World} {gb mb : Nat} {K N S0 : Int} {A AW : Option Addr} {cR cW : Nat} {rules : List S126} {ws : List Int} {w : World} (h : tC.St w0 gb mb K N S0 A AW cR cW rules ws w) {g : Nat} {cs : Array Value} {t : TypeId} {fr : Nat × Nat} (hb : w.heap[g]? = some (.cells cs t fr)) : g ≠ mb := by
  obtain ⟨D, ⟨es, clock, h1, _⟩, _⟩ := h.own
  rintro rfl
  rw [h1] at hb
  cases hb
theorem tC.blk_map {w0 : World} {gb mb : Nat} {K N S0 : Int} {A AW : Option Addr} {cR cW : Nat} {rules : List S126} {ws : List Int} {w w' : World} {g : Nat} {cs : Array Value} {t : TypeId} (hb : w.heap[g]? = some (.cells cs t (0, 0))) (h : tC.St w0 gb mb K N S0 A AW cR cW rules ws w) (hg : w.grownBy w' (some mb)) : w'.heap[g]? = some (.cells cs t (0, 0)) :=
  blk_grown hb hg (by intro e; injection e with e; exact h.apart hb e)
theorem tC.grown_drawn {w w' : World} (h : Drawn0 w w') : w.grownBy w' none := by
  obtain ⟨n, rfl⟩ := h
  exact tC.grown_drew (World.grownBy.refl _ _) n
theorem tC.grown_drewl {w w' : World} {row : Option Nat} {n : Nat} (h : (w.drewN n).grownBy w' row) : w.grownBy w' row := ⟨h.os, h.tape, h.output, h.size, h.block⟩
set_option maxHeartbeats 8000000 in
set_option maxRecDepth 100000 in
theorem tC.sign_step {w0 : World} {gb mb : Nat} {K N S0 : Int} {A AW : Option Addr} {cR cW : Nat} {rules : List S126} {ws : List Int} (HR0 : Kd.C k126 w0 A rules.length rules) (HW0 : Kd.C (Kd.int .i64) w0 AW ws.length ws) (g1 : w0.heap.size ≤ gb) (g2 : w0.heap.size ≤ mb) (q : Nat) (IH : ∀ q', q' < q → tC.RestSpec w0 gb mb K N S0 A AW cR cW rules ws q') : tC.SignSpec w0 gb mb K N S0 A AW cR cW rules ws q := by
  intro x fr en r w h st
  cases q with
  | zero => rw [table_Count.sign] at h; cases h
  | succ q =>
    rw [table_Count.sign] at h
    have hc0 : w.cell? ⟨gb, 0, none⟩ = some (.int .i64 K) := (blk_cell st.blk 0).trans rfl
    have hc3 : w.cell? ⟨gb, 3, none⟩ = some (.slice A rules.length cR) := (blk_cell st.blk 3).trans rfl
    have hc4 : w.cell? ⟨gb, 4, none⟩ = some (.slice AW ws.length cW) := (blk_cell st.blk 4).trans rfl
    have HR := Aside0.mk HR0
    have HW := Aside0.mk HW0
    have ST := Aside0.mk st
    have IH' := Aside0.mk IH
    clear HR0 HW0 st IH
    by_cases hg : 0 ≤ fr ∧ fr ≤ en ∧ en ≤ (ws.length : Int) ∧ ws.length ≤ 12 ∧ rules.length ≤ 10
    · rw [if_pos hg] at h
      obtain ⟨p1, p2, p3, p4, p5⟩ := hg
      have hw1 : wrap64 (fr + 1) = fr + 1 := by unfold wrap64; omega
      by_cases c : x < K
      · rw [if_pos c] at h
        have cb : decide (x < K) = true := decide_eq_true c
        injection h with h
        by_cases c2 : en = fr + 1
        · have cb2 : (en == fr + 1) = true := by rw [beq_iff_eq]; exact c2
          have p6 : fr < (ws.length : Int) := by omega
          obtain ⟨adw, rfl, hcw⟩ := Kd.at_int HW.out fr p1 p6
          have hcw2 := pw_cell_below ST.out.below hcw
          have p1t := eq_true p1
          have p6t := eq_true p6
          by_cases c3 : rd ws fr = x
          · have hr : r = 1 := by rw [← h, if_pos ⟨c2, c3⟩]
            subst hr
            have c3b : (rd ws fr == x) = true := by rw [beq_iff_eq]; exact c3
            clear h hcw p2 p3 p4 p5
            go_enter Try.func74, Try.ntmps74
            go_wp2
            go_ret
            exact ⟨rfl, ST.out, World.grownBy.refl _ _⟩
          · have hr : r = 0 := by rw [← h, if_neg (fun e => c3 e.2)]
            subst hr
            have c3b : (rd ws fr == x) = false := by rw [beq_eq_false_iff_ne]; exact c3
            clear h hcw p2 p3 p4 p5
            go_enter Try.func74, Try.ntmps74
            go_wp2
            go_ret
            exact ⟨rfl, ST.out, World.grownBy.refl _ _⟩
        · have cb2 : (en == fr + 1) = false := by rw [beq_eq_false_iff_ne]; exact c2
          have hr : r = 0 := by rw [← h, if_neg (fun e => c2 e.1)]
          subst hr
          clear h p1 p2 p3 p4 p5
          go_enter Try.func74, Try.ntmps74
          go_wp2
          go_ret
          exact ⟨rfl, ST.out, World.grownBy.refl _ _⟩
      · rw [if_neg c] at h
        have cb : decide (x < K) = false := decide_eq_false c
        have H := Aside0.mk h
        clear h hc4 p1 p2 p3 p4 hw1
        go_enter Try.func74, Try.ntmps74
        go_wp2
        go_loopg [9, 40] rules.length (fun gg v9 v40 wr => ∃ (i : Nat) (sum : Int) (q' : Nat), q' ≤ q ∧ i ≤ rules.length ∧ rules.length - i ≤ gg ∧ v9 = .int .i64 sum ∧ v40 = .int .i64 i ∧ Aside0 (table_Count.signL q' K rules ws x fr en i sum = some r) ∧ Aside0 (tC.St w0 gb mb K N S0 A AW cR cW rules ws wr) ∧ Aside0 (w.grownBy wr (some mb)))
        case atStart => exact ⟨0, 0, q, Nat.le_refl _, Nat.zero_le _, by omega, rfl, rfl, ⟨H.out⟩, ⟨ST.out⟩, ⟨World.grownBy.refl _ _⟩⟩
        case round =>
          obtain ⟨i, sum, q', hq, hi, hgg, rfl, rfl, H, ST, GW⟩ := hrel
          cases q' with
          | zero => have h := H.out; rw [table_Count.signL] at h; cases h
          | succ q1 =>
            have h := H.out
            rw [table_Count.signL] at h
            by_cases hlt : i < rules.length
            · have hltz : (i : Int) < (rules.length : Int) := by omega
              have m1 : q1 < q + 1 := by omega
              have m2 : q1 ≤ q := by omega
              have m3 : i + 1 ≤ rules.length := by omega
              have m4 : rules.length - (i + 1) < gk := by omega
              have M := Aside0.mk (And.intro m1 (And.intro m2 (And.intro m3 m4)))
              clear m1 m2 m3 m4 hq hi hgg
              rw [if_pos hltz] at h
              have hltb : decide ((i : Int) < (rules.length : Int)) = true := decide_eq_true hltz
              obtain ⟨ad, A1, c1, e1, hx0, hx1, hl1, hi1⟩ := at_T126 HR.out (i : Int) (by omega) hltz
              cases e1
              have hy0 := pw_cell_below ST.out.below hx0
              have hy1 := pw_cell_below ST.out.below hx1
              have hcr0 : ∀ o, (wr.alloc o).cell? ⟨gb, 0, none⟩ = some (.int .i64 K) := fun o => Lib.cell?_alloc_some _ ((blk_cell ST.out.blk 0).trans rfl)
              clear hx0 hx1 hi1 hl1 H
              rw [Int.toNat_natCast] at hy0 hy1
              generalize (rd_T126 rules (i : Int)).f0 = f0 at *
              generalize (rd_T126 rules (i : Int)).f1 = f1 at *
              by_cases c5 : f0 = wrap64 (x - K)
              · rw [if_pos c5] at h
                have c5b : wrap64 (x - K) = f0 := c5.symm
                clear c5
                obtain ⟨n, hn, h⟩ := Option.bind_eq_some_iff.mp h
                have hn' := Aside0.mk hn
                have H := Aside0.mk h
                clear hn h
                have hr0 : (0 : Int) ≤ (i : Int) := by omega
                have hi64 : wrap64 ((i : Int) + 1) = (i : Int) + 1 := by unfold wrap64; omega
                have hltz' := eq_true hltz
                have hr0' := eq_true hr0
                go_wp2
                have hq0 : (wr.alloc (Obj.cells #[.int .i64 f0, .slice A1 f1.length c1] 126)).cell? ⟨wr.heap.size, 0, none⟩ = some (.int .i64 f0) := by simp
                have hq1 := hcr0 (Obj.cells #[.int .i64 f0, .slice A1 f1.length c1] 126)
                have GA := Aside0.mk (World.grownBy_alloc wr (Obj.cells #[.int .i64 f0, .slice A1 f1.length c1] 126) none)
                generalize wr.alloc (Obj.cells #[.int .i64 f0, .slice A1 f1.length c1] 126) = w1 at *
                generalize wr.heap.size = bx at *
                clear hcr0 hy0 hy1 hr0' hltz' hltb hltz hr0 hc0 hc3
                go_quiet (fail)
                go_wp2_with (go_at_call 78; refine ((IH'.out q1 M.out.1) (i : Int) 0 fr en n _ hn'.out (ST.out.kept (tC.grown_drew GA.out _))).mono ?_; rintro e w2 ⟨rfl, ST2', GW2'⟩; have ST2 := Aside0.mk ST2'; have GW2 := Aside0.mk GW2'; clear ST2' GW2')
                go_roundg (rules.length - (i + 1))
                case measure => exact M.out.2.2.2
                case rel => exact ⟨i + 1, _, q1, M.out.2.1, M.out.2.2.1, Nat.le_refl _, rfl, by first | rfl | simp, H, ST2, ⟨(GW.out.trans ((GA.out.but _).trans (tC.grown_drew (World.grownBy.refl _ _) _))).trans GW2.out⟩⟩
              · rw [if_neg c5] at h
                have H := Aside0.mk h
                clear h
                generalize hwy : wrap64 (x - K) = y at *
                have c5b : (f0 == y) = false := by rw [beq_eq_false_iff_ne]; exact c5
                clear c5
                have hr0 : (0 : Int) ≤ (i : Int) := by omega
                have hi64 : wrap64 ((i : Int) + 1) = (i : Int) + 1 := by unfold wrap64; omega
                have hltz' := eq_true hltz
                have hr0' := eq_true hr0
                go_wp2
                have hq0 : (wr.alloc (Obj.cells #[.int .i64 f0, .slice A1 f1.length c1] 126)).cell? ⟨wr.heap.size, 0, none⟩ = some (.int .i64 f0) := by simp
                have hq1 := hcr0 (Obj.cells #[.int .i64 f0, .slice A1 f1.length c1] 126)
                have GA := Aside0.mk (World.grownBy_alloc wr (Obj.cells #[.int .i64 f0, .slice A1 f1.length c1] 126) none)
                generalize wr.alloc (Obj.cells #[.int .i64 f0, .slice A1 f1.length c1] 126) = w1 at *
                generalize wr.heap.size = bx at *
                clear hcr0 hy0 hy1 hr0' hltz' hltb hltz hr0 hc0 hc3
                go_quiet (fail)
                go_wp2
                go_roundg (rules.length - (i + 1))
                case measure => exact M.out.2.2.2
                case rel => exact ⟨i + 1, _, q1, M.out.2.1, M.out.2.2.1, Nat.le_refl _, rfl, by first | rfl | simp, H, ⟨ST.out.kept (tC.grown_drew GA.out _)⟩, ⟨GW.out.trans (tC.grown_drew (GA.out.but _) _)⟩⟩
            · have hltz : ¬ (i : Int) < (rules.length : Int) := by omega
              rw [if_neg hltz] at h
              have hltb : decide ((i : Int) < (rules.length : Int)) = false := decide_eq_false hltz
              injection h with hsum
              clear hc0 hc3 H
              go_wp2
              all_goals
                go_ret
                refine ⟨?_, ST.out, GW.out⟩
                rw [← hsum]
                unfold mn
                split
                all_goals first | rfl | (exfalso; omega)
    · rw [if_neg hg] at h; cases h
set_option maxHeartbeats 8000000 in
set_option maxRecDepth 100000 in
theorem tC.rest_step {w0 : World} {gb mb : Nat} {K N S0 : Int} {A AW : Option Addr} {cR cW : Nat} {rules : List S126} {ws : List Int} (HR0 : Kd.C k126 w0 A rules.length rules) (g1 : w0.heap.size ≤ gb) (g2 : w0.heap.size ≤ mb) (q : Nat) (IH : ∀ q', q' < q → tC.RestSpec w0 gb mb K N S0 A AW cR cW rules ws q') (IS : ∀ q', q' < q → tC.SignSpec w0 gb mb K N S0 A AW cR cW rules ws q') : tC.RestSpec w0 gb mb K N S0 A AW cR cW rules ws q := by
  intro rule dot fr en r w h st
  cases q with
  | zero => rw [table_Count.rest] at h; cases h
  | succ q =>
    have h0 := Aside0.mk h
    rw [table_Count.rest] at h
    by_cases hg : 0 ≤ rule ∧ rule < (rules.length : Int) ∧ rules.length ≤ 10 ∧ 0 ≤ dot ∧ dot ≤ ((rd_T126 rules rule).f1.length : Int) ∧ (rd_T126 rules rule).f1.length ≤ 4 ∧ 0 ≤ fr ∧ fr ≤ en ∧ en ≤ (ws.length : Int) ∧ ws.length ≤ 12
    · rw [if_pos hg] at h
      obtain ⟨p1, p2, p3, p4, p5, p6, p7, p8, p9, p10⟩ := hg
      obtain ⟨ad, A1, c1, e1, hx0, hx1, hl1, hi1⟩ := at_T126 HR0 rule p1 p2
      cases e1
      have hy1 := pw_cell_below st.below hx1
      have hc3 : w.cell? ⟨gb, 3, none⟩ = some (.slice (some ad) rules.length cR) := (blk_cell st.blk 3).trans rfl
      have hc5 : w.cell? ⟨gb, 5, none⟩ = some (.map (some mb)) := (blk_cell st.blk 5).trans rfl
      have HI := Aside0.mk hi1
      have ST := Aside0.mk st
      have IHr := Aside0.mk IH
      have IHs := Aside0.mk IS
      clear hx0 hx1 hi1 st IH IS hl1 HR0
      obtain ⟨lf, hlf⟩ : ∃ lf : Int, lf = ((rd_T126 rules rule).f1.length : Int) - dot := ⟨_, rfl⟩
      obtain ⟨sp, hsp⟩ : ∃ sp : Int, sp = en - fr := ⟨_, rfl⟩
      have b1 : ((rd_T126 rules rule).f1.length : Int) = dot ↔ lf = 0 := by omega
      have b2 : en - fr < ((rd_T126 rules rule).f1.length : Int) - dot ↔ sp < lf := by omega
      have b3 : fr = en ↔ sp = 0 := by omega
      simp only [b1, b2, b3] at h
      have w1e : wrap64 (((rd_T126 rules rule).f1.length : Int) - dot) = lf := by unfold wrap64; omega
      have w2e : wrap64 (en - fr) = sp := by unfold wrap64; omega
      have B := Aside0.mk (And.intro p1 (And.intro p2 (And.intro p3 (And.intro p4 (And.intro p5 (And.intro p6 (And.intro p7 (And.intro p8 (And.intro p9 (And.intro p10 (And.intro hlf hsp)))))))))))
      have p1t := eq_true p1
      have p2t := eq_true p2
      by_cases c : sp < lf ∨ lf = 0
      · rw [if_pos c] at h
        injection h with h
        by_cases c0 : lf = 0
        · by_cases c3 : fr = en
          · have hr : r = 1 := by rw [← h, if_pos ⟨c0, b3.1 c3⟩]
            subst hr
            have k1 : decide (sp < lf) = false := decide_eq_false (by omega)
            have k2 : (lf == 0) = true := by rw [beq_iff_eq]; exact c0
            have k3 : (fr == en) = true := by rw [beq_iff_eq]; exact c3
            clear h c c0 b1 b2 b3 p1 p2 p3 p4 p5 p6 p7 p8 p9 p10 hlf hsp h0 c3
            go_enter Try.func78, Try.ntmps78
            go_wp2
            go_ret
            exact ⟨rfl, ST.out, World.grownBy.refl _ _⟩
          · have hr : r = 0 := by rw [← h, if_neg (fun e => c3 (b3.2 e.2))]
            subst hr
            have k1 : decide (sp < lf) = false := decide_eq_false (by omega)
            have k2 : (lf == 0) = true := by rw [beq_iff_eq]; exact c0
            have k3 : (fr == en) = false := by rw [beq_eq_false_iff_ne]; exact c3
            clear h c c0 b1 b2 b3 p1 p2 p3 p4 p5 p6 p7 p8 p9 p10 hlf hsp h0 c3
            go_enter Try.func78, Try.ntmps78
            go_wp2
            go_ret
            exact ⟨rfl, ST.out, World.grownBy.refl _ _⟩
        · have hr : r = 0 := by rw [← h, if_neg (fun e => c0 e.1)]
          subst hr
          have k1 : decide (sp < lf) = true := decide_eq_true (by omega)
          have k2 : (lf == 0) = false := by rw [beq_eq_false_iff_ne]; exact c0
          clear h c c0 b1 b2 b3 p1 p2 p3 p4 p5 p6 p7 p8 p9 p10 hlf hsp h0
          go_enter Try.func78, Try.ntmps78
          go_wp2
          go_ret
          exact ⟨rfl, ST.out, World.grownBy.refl _ _⟩
      · rw [if_neg c] at h
        have k1 : decide (sp < lf) = false := decide_eq_false (by omega)
        have k2 : (lf == 0) = false := by rw [beq_eq_false_iff_ne]; omega
        obtain ⟨r0, hL, h⟩ := Option.bind_eq_some_iff.mp h
        have HL := Aside0.mk hL
        have hwf1 := tC.wf (a := rule) (by omega) (by omega)
        have hwf2 := tC.wf (a := dot) (by omega) (by omega)
        have hwf3 := tC.wf (a := fr) (by omega) (by omega)
        have hwf4 := tC.wf (a := en) (by omega) (by omega)
        have hin : 0 ≤ rule ∧ rule < 16 ∧ 0 ≤ dot ∧ dot < 16 ∧ 0 ≤ fr ∧ fr < 16 ∧ 0 ≤ en ∧ en < 16 := by omega
        have hkey := tC.key hwf1 hwf2 hwf3 hwf4
        have hgood : 0 ≤ r0 ∧ r0 ≤ 1099511627777 ∧ r0 = r := by
          split at h
          · injection h with h; omega
          · cases h
        obtain ⟨hr0, hr1, rfl⟩ := hgood
        have RB := Aside0.mk (And.intro hr0 hr1)
        have C := Aside0.mk c
        clear hL h c b1 b2 b3 p1 p2 p3 p4 p5 p6 p7 p8 p9 p10 hlf hsp hr0 hr1
        obtain ⟨D, hown, hgd⟩ := ST.out.own
        obtain ⟨v, b, hv, hb, hlk⟩ : ∃ (v : Int) (b : Bool), (b = true → v = r0) ∧ Go.Maps.has D (tC.kl rule dot fr en) = b ∧ ∀ (o : Obj) (n : Nat), (Instr.lookup 171 (.map (some mb)) (.agg #[.int .i64 rule, .int .i64 dot, .int .i64 fr, .int .i64 en]) true).run Try.prog ((w.alloc o).drewN n) = .ok (.tuple #[.int .i64 v, .bool b]) ((w.alloc o).drewN n) := by
          obtain ⟨v, hat, hvv⟩ : ∃ v : Int, D.atKey (tC.kl rule dot fr en) (.lit (.int .i64 0)) = .lit (.int .i64 v) ∧ (Go.Maps.has D (tC.kl rule dot fr en) = true → v = r0) := by
            by_cases hh : Go.Maps.has D (tC.kl rule dot fr en) = true
            · obtain ⟨a', b', c', d', v, hr, hk, ⟨q0, hq0⟩, hat⟩ := hgd.g _ hh
              have := tC.inj hwf1 hwf2 hwf3 hwf4 (tC.wf (by omega) (by omega)) (tC.wf (by omega) (by omega)) (tC.wf (by omega) (by omega)) (tC.wf (by omega) (by omega)) hk
              obtain ⟨rfl, rfl, rfl, rfl⟩ := this
              exact ⟨v, hat _, fun _ => table_Count.rest_one hq0 h0.out⟩
            · exact ⟨0, tC.at_none (by simpa using hh), fun h => absurd h hh⟩
          refine ⟨v, _, hvv, rfl, fun o n => ?_⟩
          have ho : ((w.alloc o).drewN n).ownsMap Try.prog 179 (plainElem Try.prog 2) mb 65536 D := hown.alloc o
          obtain ⟨v2, ps, hrun, hR⟩ := ho.look_ok tC.law tC.und (tC.zero _) (zd := .lit (.int .i64 0)) (zp := []) (plainElem_int Try.underlying2 (by decide)) hkey
          rw [hat] at hR
          obtain ⟨a9, rfl, hz, _⟩ := plainElem_int_inv Try.underlying2 hR
          injection hz with hz _
          injection hz with hz
          injection hz with _ hz
          subst hz
          exact hrun
        clear hwf1 hwf2 hwf3 hwf4
        by_cases hbt : b = true
        · subst hbt
          obtain rfl := hv rfl
          clear hv hb hgd hown hkey hin
          try clear h
          go_enter Try.func78, Try.ntmps78
          go_wp2
          have hc5a := fun o => Lib.cell?_alloc_some o hc5
          clear hc5 hc3 hy1
          go_quiet (fail)
          go_wp2
          go_ret
          exact ⟨rfl, ST.out.kept (tC.grown_drew (World.grownBy_alloc _ _ none) _), (tC.grown_drew (World.grownBy_alloc _ _ _) _)⟩
        · obtain rfl : b = false := by simpa using hbt
          have HIN := Aside0.mk hin
          have HKEY := Aside0.mk hkey
          clear hv hb hgd hown hbt hin hkey
          clear k2
          rcases (show lf = 1 ∨ ¬ lf = 1 by omega) with l1 | l1
          · subst l1
            obtain ⟨q1, q2, q3, q4, q5, q6, q7, q8, q9, q10, q11, q12⟩ := B.out
            obtain ⟨e0, he0⟩ : ∃ e0 : Int, e0 = en - 1 := ⟨_, rfl⟩
            obtain ⟨e1, he1⟩ : ∃ e1 : Int, e1 = e0 + 1 := ⟨_, rfl⟩
            have w3e : wrap64 (en - 1) = e0 := by unfold wrap64; omega
            have w4e : wrap64 (e0 + 1) = e1 := by unfold wrap64; omega
            have w5e : wrap64 (fr + 1) = fr + 1 := by unfold wrap64; omega
            have w6e : wrap64 (dot + 1) = dot + 1 := by unfold wrap64; omega
            have q13 : dot < ((rd_T126 rules rule).f1.length : Int) := by have := C.out; omega
            have q14 : e1 ≤ 13 := by have := C.out; omega
            obtain ⟨ad1, rfl, hz0⟩ := Kd.at_int HI.out dot q4 q13
            have E := Aside0.mk (And.intro he0 (And.intro he1 q14))
            have HZ := Aside0.mk hz0
            have q78 := Aside0.mk (And.intro q7 (And.intro q8 q9))
            have q10' := Aside0.mk q10
            have WE := Aside0.mk (And.intro w3e (And.intro w4e (And.intro w5e w6e)))
            clear hz0 he0 he1 q1 q2 q3 q4 q5 q6 q7 q8 q9 q10 q11 q12 q13 q14 w3e w4e w5e w6e
            try clear h
            go_enter Try.func78, Try.ntmps78
            go_wp2
            have hc5a := fun o => Lib.cell?_alloc_some o hc5
            clear hc5 hc3 hy1
            go_quiet (fail)
            have STa := Aside0.mk (ST.out.kept (tC.grown_drew (World.grownBy_alloc w (Obj.cells #[.int .i64 rule, .int .i64 dot, .int .i64 fr, .int .i64 en] 179) none) nq))
            have BXa := Aside0.mk (show ((w.alloc (Obj.cells #[.int .i64 rule, .int .i64 dot, .int .i64 fr, .int .i64 en] 179)).drewN nq).heap[w.heap.size]? = _ from blk_drewN (heap_alloc_new w _) nq)
            have GWa := Aside0.mk (tC.grown_drew (World.grownBy_alloc w (Obj.cells #[.int .i64 rule, .int .i64 dot, .int .i64 fr, .int .i64 en] 179) (some mb)) nq)
            clear hlk hc5a ST
            generalize (w.alloc (Obj.cells #[.int .i64 rule, .int .i64 dot, .int .i64 fr, .int .i64 en] 179)).drewN nq = wa at *
            generalize hbx : w.heap.size = bx at *
            have HBX := Aside0.mk hbx
            clear hbx
            obtain ⟨w3e, w4e, w5e, w6e⟩ := WE.out
            try simp only [w1e, w2e]
            clear w1e w2e k1 p1t p2t w3e w4e w6e
            go_wp2
            try simp only [w5e]
            go_loopg [16, 17] 30 (fun gg v16 v17 wr => ∃ (mid sum : Int) (q' : Nat), q' ≤ q ∧ fr < mid ∧ mid ≤ 15 ∧ (20 - mid).toNat ≤ gg ∧ v16 = .int .i64 sum ∧ v17 = .int .i64 mid ∧ Aside0 (table_Count.restL q' K rules ws rule dot fr en mid sum = some r0) ∧ Aside0 (tC.St w0 gb mb K N S0 (some ad) AW cR cW rules ws wr) ∧ Aside0 (w.grownBy wr (some mb)) ∧ Aside0 (wr.heap[bx]? = some (.cells #[.int .i64 rule, .int .i64 dot, .int .i64 fr, .int .i64 en] 179 (0, 0))))
            case atStart => exact ⟨fr + 1, 0, q, Nat.le_refl _, by omega, by have := q78.out; have := q10'.out; omega, by have := q78.out; omega, rfl, by first | rfl | rw [w5e], ⟨HL.out⟩, ⟨STa.out⟩, ⟨GWa.out⟩, ⟨BXa.out⟩⟩
            case round =>
              clear w5e STa GWa BXa HL
              obtain ⟨mid, sum, q', hq, hm0, hm1, hgg, rfl, rfl, H, ST, GW, BX⟩ := hrel
              obtain ⟨w3e, w4e, _, w6e⟩ := WE.out
              cases q' with
              | zero => have h := H.out; rw [table_Count.restL] at h; cases h
              | succ q1 =>
                have h := H.out
                rw [table_Count.restL] at h
                have x1 : mid ≤ en - (((rd_T126 rules rule).f1.length : Int) - dot) + 1 ↔ mid ≤ e1 := by have := B.out; have := E.out; omega
                have x2 : (((rd_T126 rules rule).f1.length : Int) - dot = 1) = True := eq_true (by have := B.out; omega)
                have m1 : q1 < q + 1 := by omega
                have m2 : q1 ≤ q := by omega
                have w7e : wrap64 (mid + 1) = mid + 1 := by have := q78.out; unfold wrap64; omega
                simp only [x1, x2, true_and] at h
                by_cases c6 : mid ≤ e1
                · have m3 : fr < mid + 1 := by omega
                  have m4 : mid + 1 ≤ 15 := by have := E.out; omega
                  have m5 : (20 - (mid + 1)).toNat < gk := by have := E.out; omega
                  have M := Aside0.mk (And.intro m1 (And.intro m2 (And.intro m3 (And.intro m4 m5))))
                  rw [if_pos c6] at h
                  have c6b : decide (mid ≤ e1) = true := decide_eq_true c6
                  clear x1 x2 m1 m2 m3 m4 m5 hq hm0 hm1 hgg H
                  by_cases c7 : mid < en
                  · rw [if_pos c7] at h
                    have H := Aside0.mk h
                    have c7b : decide (mid < en) = true := decide_eq_true c7
                    clear h c7 c6
                    go_wp2
                    go_roundg (20 - (mid + 1)).toNat
                    case measure => exact M.out.2.2.2.2
                    case rel => exact ⟨mid + 1, sum, q1, M.out.2.1, M.out.2.2.1, M.out.2.2.2.1, Nat.le_refl _, rfl, by first | rfl | rw [w7e], H, ST, GW, BX⟩
                  · rw [if_neg c7] at h
                    have c7b : decide (mid < en) = false := decide_eq_false c7
                    clear c7
                    obtain ⟨n, hn, h⟩ := Option.bind_eq_some_iff.mp h
                    have HN := Aside0.mk hn
                    have HT := Aside0.mk h
                    clear hn h c6
                    have bound : n ≤ 0 ∨ 0 < n := by omega
                    rcases bound with c8 | c8
                    · have hh := HT.out
                      rw [if_neg (by omega)] at hh
                      have H := Aside0.mk hh
                      have c8b : decide (0 < n) = false := decide_eq_false (by omega)
                      clear hh c8 HT
                      go_wp2_with (go_at_call 78; refine ((IHr.out q1 M.out.1) rule (dot + 1) mid en n _ HN.out ST.out).mono ?_; rintro e w2 ⟨rfl, ST2', GW2'⟩; have ST2 := Aside0.mk ST2'; have GW2 := Aside0.mk (GW.out.trans GW2'); have BX2 := Aside0.mk (tC.blk_map BX.out ST.out GW2'); clear ST2' GW2')
                      go_roundg (20 - (mid + 1)).toNat
                      case measure => exact M.out.2.2.2.2
                      case rel => exact ⟨mid + 1, _, q1, M.out.2.1, M.out.2.2.1, M.out.2.2.2.1, Nat.le_refl _, rfl, by first | rfl | rw [w7e], H, ST2, GW2, BX2⟩
                    · have hh := HT.out
                      rw [if_pos (by omega)] at hh
                      obtain ⟨s, hs, hh⟩ := Option.bind_eq_some_iff.mp hh
                      obtain ⟨tt, ht, hh⟩ := Option.bind_eq_some_iff.mp hh
                      have c8b : decide (0 < n) = true := decide_eq_true (by omega)
                      have HS := Aside0.mk hs
                      have HTT := Aside0.mk ht
                      obtain ⟨y, hy⟩ : ∃ y, wrap64 (sum + tt) = y := ⟨_, rfl⟩
                      rw [hy] at hh
                      have hmin : (1099511627777 < y ∧ mn y 1099511627777 = 1099511627777) ∨ (¬ 1099511627777 < y ∧ mn y 1099511627777 = y) := by
                        unfold mn
                        by_cases z : (1099511627777 : Int) < y
                        · exact Or.inl ⟨z, if_pos z⟩
                        · exact Or.inr ⟨z, if_neg z⟩
                      obtain ⟨q4t, q13t⟩ : (0 ≤ dot) = True ∧ (dot < ((rd_T126 rules rule).f1.length : Int)) = True := by
                        have := B.out
                        have := C.out
                        have a1 : 0 ≤ dot := by omega
                        have a2 : dot < ((rd_T126 rules rule).f1.length : Int) := by omega
                        exact ⟨eq_true a1, eq_true a2⟩
                      clear hs ht c8 HT
                      rcases hmin with ⟨z, hz⟩ | ⟨z, hz⟩
                      all_goals
                        rw [hz] at hh
                        have H := Aside0.mk hh
                        clear hh hz
                        first | have zz : decide ((1099511627777 : Int) < y) = true := decide_eq_true z | have zz : decide ((1099511627777 : Int) < y) = false := decide_eq_false z
                        go_wp2_with (first
                          | (go_at_call 78; refine ((IHr.out q1 M.out.1) rule (dot + 1) mid en n _ HN.out ST.out).mono ?_; rintro e w2 ⟨rfl, ST2', GW2'⟩; have ST2 := Aside0.mk ST2'; have GW2 := Aside0.mk (GW.out.trans GW2'); have BX2 := Aside0.mk (tC.blk_map BX.out ST.out GW2'); have hzc := pw_cell_below ST2'.below HZ.out; clear ST2' GW2')
                          | (go_at_call 74; refine ((IHs.out q1 M.out.1) (rd (rd_T126 rules rule).f1 dot) fr mid s _ HS.out ST2.out).mono ?_; rintro e w3 ⟨rfl, ST3', GW3'⟩; have ST3 := Aside0.mk ST3'; have GW3 := Aside0.mk (GW2.out.trans GW3'); have BX3 := Aside0.mk (tC.blk_map BX2.out ST2.out GW3'); clear ST3' GW3' hzc)
                          | (go_at_call 115; refine (table_times.calls s n tt _ HTT.out).mono ?_; rintro e w4 ⟨rfl, hd4⟩; have ST4 := Aside0.mk (ST3.out.kept (tC.grown_drawn hd4)); have GW4 := Aside0.mk (GW3.out.trans ((tC.grown_drawn hd4).but _)); have BX4 := Aside0.mk (blk_grown BX3.out (tC.grown_drawn hd4) (by simp)); clear hd4))
                        go_roundg (20 - (mid + 1)).toNat
                        case measure => exact M.out.2.2.2.2
                        case rel => exact ⟨mid + 1, _, q1, M.out.2.1, M.out.2.2.1, M.out.2.2.2.1, Nat.le_refl _, rfl, by first | rfl | rw [w7e], H, ST4, GW4, BX4⟩
                · rw [if_neg c6] at h
                  injection h with h
                  have c6b : decide (mid ≤ e1) = false := decide_eq_false c6
                  clear x1 x2 m1 m2 hq hm0 hm1 hgg H c6
                  subst h
                  clear w6e w7e
                  have hc5 : wr.cell? ⟨gb, 5, none⟩ = some (.map (some mb)) := (blk_cell ST.out.blk 5).trans rfl
                  have hk0 : wr.cell? ⟨bx, 0, none⟩ = some (.int .i64 rule) := (blk_cell BX.out 0).trans rfl
                  have hk1 : wr.cell? ⟨bx, 1, none⟩ = some (.int .i64 dot) := (blk_cell BX.out 1).trans rfl
                  have hk2 : wr.cell? ⟨bx, 2, none⟩ = some (.int .i64 fr) := (blk_cell BX.out 2).trans rfl
                  have hk3 : wr.cell? ⟨bx, 3, none⟩ = some (.int .i64 en) := (blk_cell BX.out 3).trans rfl
                  obtain ⟨D2, hown2, hgd2⟩ := ST.out.own
                  have hwf := tC.wf (a := sum) (by have := RB.out; omega) (by have := RB.out; omega)
                  obtain ⟨w9, hrun, hW1, hW2⟩ := (show wr.drew.ownsMap Try.prog 179 (plainElem Try.prog 2) mb 65536 D2 from hown2).update tC.law tC.und (by unfold maxLen; omega) HKEY.out (plainElem_int Try.underlying2 hwf)
                  have hW3 : wr.grownBy w9 (some mb) := tC.grown_drewl (n := 1) hW2
                  have FIN := Aside0.mk (And.intro (show tC.St w0 gb mb K N S0 (some ad) AW cR cW rules ws w9 from ⟨Below.grown ST.out.below hW3 (below_size ST.out.below) (fun k e => by injection e with e; omega), blk_grown ST.out.blk hW3 (by intro e; injection e with e; exact ST.out.apart ST.out.blk e), tC.own_put hgd2 HIN.out ⟨_, h0.out⟩ hW1⟩) (GW.out.trans hW3))
                  have hrun' : (Instr.mapUpdate 171 (.map (some mb)) (.agg #[.int .i64 rule, .int .i64 dot, .int .i64 fr, .int .i64 en]) (.int .i64 sum)).run Try.prog wr.drew = .ok () w9 := hrun
                  clear hW1 hW2 hW3 hwf hgd2 hown2 g1 g2 hrun
                  go_wp2
                  go_region
                  all_goals
                    go_wp2
                    go_ret
                    exact ⟨rfl, FIN.out.1, FIN.out.2⟩
          · have L1 := Aside0.mk l1
            clear l1
            have k2 : (lf == 0) = false := by rw [beq_eq_false_iff_ne]; have := C.out; omega
            obtain ⟨q1, q2, q3, q4, q5, q6, q7, q8, q9, q10, q11, q12⟩ := B.out
            obtain ⟨e0, he0⟩ : ∃ e0 : Int, e0 = en - lf := ⟨_, rfl⟩
            obtain ⟨e1, he1⟩ : ∃ e1 : Int, e1 = e0 + 1 := ⟨_, rfl⟩
            have w3e : wrap64 (en - lf) = e0 := by unfold wrap64; omega
            have w4e : wrap64 (e0 + 1) = e1 := by unfold wrap64; omega
            have w5e : wrap64 (fr + 1) = fr + 1 := by unfold wrap64; omega
            have w6e : wrap64 (dot + 1) = dot + 1 := by unfold wrap64; omega
            have q13 : dot < ((rd_T126 rules rule).f1.length : Int) := by have := C.out; omega
            have q14 : e1 ≤ 13 := by have := C.out; omega
            obtain ⟨ad1, rfl, hz0⟩ := Kd.at_int HI.out dot q4 q13
            have E := Aside0.mk (And.intro he0 (And.intro he1 q14))
            have HZ := Aside0.mk hz0
            have q78 := Aside0.mk (And.intro q7 (And.intro q8 q9))
            have q10' := Aside0.mk q10
            have WE := Aside0.mk (And.intro w3e (And.intro w4e (And.intro w5e w6e)))
            clear hz0 he0 he1 q1 q2 q3 q4 q5 q6 q7 q8 q9 q10 q11 q12 q13 q14 w3e w4e w5e w6e
            try clear h
            go_enter Try.func78, Try.ntmps78
            go_wp2
            have hc5a := fun o => Lib.cell?_alloc_some o hc5
            clear hc5 hc3 hy1
            go_quiet (fail)
            have STa := Aside0.mk (ST.out.kept (tC.grown_drew (World.grownBy_alloc w (Obj.cells #[.int .i64 rule, .int .i64 dot, .int .i64 fr, .int .i64 en] 179) none) nq))
            have BXa := Aside0.mk (show ((w.alloc (Obj.cells #[.int .i64 rule, .int .i64 dot, .int .i64 fr, .int .i64 en] 179)).drewN nq).heap[w.heap.size]? = _ from blk_drewN (heap_alloc_new w _) nq)
            have GWa := Aside0.mk (tC.grown_drew (World.grownBy_alloc w (Obj.cells #[.int .i64 rule, .int .i64 dot, .int .i64 fr, .int .i64 en] 179) (some mb)) nq)
            clear hlk hc5a ST
            generalize (w.alloc (Obj.cells #[.int .i64 rule, .int .i64 dot, .int .i64 fr, .int .i64 en] 179)).drewN nq = wa at *
            generalize hbx : w.heap.size = bx at *
            have HBX := Aside0.mk hbx
            clear hbx
            obtain ⟨w3e, w4e, w5e, w6e⟩ := WE.out
            try simp only [w1e, w2e]
            clear w1e w2e k1 p1t p2t w3e w4e w6e
            go_wp2
            try simp only [w5e]
            go_loopg [16, 17] 30 (fun gg v16 v17 wr => ∃ (mid sum : Int) (q' : Nat), q' ≤ q ∧ fr < mid ∧ mid ≤ 15 ∧ (20 - mid).toNat ≤ gg ∧ v16 = .int .i64 sum ∧ v17 = .int .i64 mid ∧ Aside0 (table_Count.restL q' K rules ws rule dot fr en mid sum = some r0) ∧ Aside0 (tC.St w0 gb mb K N S0 (some ad) AW cR cW rules ws wr) ∧ Aside0 (w.grownBy wr (some mb)) ∧ Aside0 (wr.heap[bx]? = some (.cells #[.int .i64 rule, .int .i64 dot, .int .i64 fr, .int .i64 en] 179 (0, 0))))
            case atStart => exact ⟨fr + 1, 0, q, Nat.le_refl _, by omega, by have := q78.out; have := q10'.out; omega, by have := q78.out; omega, rfl, by first | rfl | rw [w5e], ⟨HL.out⟩, ⟨STa.out⟩, ⟨GWa.out⟩, ⟨BXa.out⟩⟩
            case round =>
              clear w5e STa GWa BXa HL
              obtain ⟨mid, sum, q', hq, hm0, hm1, hgg, rfl, rfl, H, ST, GW, BX⟩ := hrel
              obtain ⟨w3e, w4e, _, w6e⟩ := WE.out
              cases q' with
              | zero => have h := H.out; rw [table_Count.restL] at h; cases h
              | succ q1 =>
                have h := H.out
                rw [table_Count.restL] at h
                have x1 : mid ≤ en - (((rd_T126 rules rule).f1.length : Int) - dot) + 1 ↔ mid ≤ e1 := by have := B.out; have := E.out; omega
                have x2 : (((rd_T126 rules rule).f1.length : Int) - dot = 1) = False := eq_false (by have := B.out; have := L1.out; omega)
                have m1 : q1 < q + 1 := by omega
                have m2 : q1 ≤ q := by omega
                have w7e : wrap64 (mid + 1) = mid + 1 := by have := q78.out; unfold wrap64; omega
                simp only [x1, x2, false_and, if_false] at h
                by_cases c6 : mid ≤ e1
                · have m3 : fr < mid + 1 := by omega
                  have m4 : mid + 1 ≤ 15 := by have := E.out; omega
                  have m5 : (20 - (mid + 1)).toNat < gk := by have := E.out; omega
                  have M := Aside0.mk (And.intro m1 (And.intro m2 (And.intro m3 (And.intro m4 m5))))
                  rw [if_pos c6] at h
                  have c6b : decide (mid ≤ e1) = true := decide_eq_true c6
                  clear x1 x2 m1 m2 m3 m4 m5 hq hm0 hm1 hgg H
                  have l1b : (lf == 1) = false := by rw [beq_eq_false_iff_ne]; exact L1.out

                  obtain ⟨n, hn, h⟩ := Option.bind_eq_some_iff.mp h
                  have HN := Aside0.mk hn
                  have HT := Aside0.mk h
                  clear hn h c6
                  have bound : n ≤ 0 ∨ 0 < n := by omega
                  rcases bound with c8 | c8
                  · have hh := HT.out
                    rw [if_neg (by omega)] at hh
                    have H := Aside0.mk hh
                    have c8b : decide (0 < n) = false := decide_eq_false (by omega)
                    clear hh c8 HT
                    go_wp2_with (go_at_call 78; refine ((IHr.out q1 M.out.1) rule (dot + 1) mid en n _ HN.out ST.out).mono ?_; rintro e w2 ⟨rfl, ST2', GW2'⟩; have ST2 := Aside0.mk ST2'; have GW2 := Aside0.mk (GW.out.trans GW2'); have BX2 := Aside0.mk (tC.blk_map BX.out ST.out GW2'); clear ST2' GW2')
                    go_roundg (20 - (mid + 1)).toNat
                    case measure => exact M.out.2.2.2.2
                    case rel => exact ⟨mid + 1, _, q1, M.out.2.1, M.out.2.2.1, M.out.2.2.2.1, Nat.le_refl _, rfl, by first | rfl | rw [w7e], H, ST2, GW2, BX2⟩
                  · have hh := HT.out
                    rw [if_pos (by omega)] at hh
                    obtain ⟨s, hs, hh⟩ := Option.bind_eq_some_iff.mp hh
                    obtain ⟨tt, ht, hh⟩ := Option.bind_eq_some_iff.mp hh
                    have c8b : decide (0 < n) = true := decide_eq_true (by omega)
                    have HS := Aside0.mk hs
                    have HTT := Aside0.mk ht
                    obtain ⟨y, hy⟩ : ∃ y, wrap64 (sum + tt) = y := ⟨_, rfl⟩
                    rw [hy] at hh
                    have hmin : (1099511627777 < y ∧ mn y 1099511627777 = 1099511627777) ∨ (¬ 1099511627777 < y ∧ mn y 1099511627777 = y) := by
                      unfold mn
                      by_cases z : (1099511627777 : Int) < y
                      · exact Or.inl ⟨z, if_pos z⟩
                      · exact Or.inr ⟨z, if_neg z⟩
                    obtain ⟨q4t, q13t⟩ : (0 ≤ dot) = True ∧ (dot < ((rd_T126 rules rule).f1.length : Int)) = True := by
                      have := B.out
                      have := C.out
                      have a1 : 0 ≤ dot := by omega
                      have a2 : dot < ((rd_T126 rules rule).f1.length : Int) := by omega
                      exact ⟨eq_true a1, eq_true a2⟩
                    clear hs ht c8 HT
                    rcases hmin with ⟨z, hz⟩ | ⟨z, hz⟩
                    all_goals
                      rw [hz] at hh
                      have H := Aside0.mk hh
                      clear hh hz
                      first | have zz : decide ((1099511627777 : Int) < y) = true := decide_eq_true z | have zz : decide ((1099511627777 : Int) < y) = false := decide_eq_false z
                      go_wp2_with (first
                        | (go_at_call 78; refine ((IHr.out q1 M.out.1) rule (dot + 1) mid en n _ HN.out ST.out).mono ?_; rintro e w2 ⟨rfl, ST2', GW2'⟩; have ST2 := Aside0.mk ST2'; have GW2 := Aside0.mk (GW.out.trans GW2'); have BX2 := Aside0.mk (tC.blk_map BX.out ST.out GW2'); have hzc := pw_cell_below ST2'.below HZ.out; clear ST2' GW2')
                        | (go_at_call 74; refine ((IHs.out q1 M.out.1) (rd (rd_T126 rules rule).f1 dot) fr mid s _ HS.out ST2.out).mono ?_; rintro e w3 ⟨rfl, ST3', GW3'⟩; have ST3 := Aside0.mk ST3'; have GW3 := Aside0.mk (GW2.out.trans GW3'); have BX3 := Aside0.mk (tC.blk_map BX2.out ST2.out GW3'); clear ST3' GW3' hzc)
                        | (go_at_call 115; refine (table_times.calls s n tt _ HTT.out).mono ?_; rintro e w4 ⟨rfl, hd4⟩; have ST4 := Aside0.mk (ST3.out.kept (tC.grown_drawn hd4)); have GW4 := Aside0.mk (GW3.out.trans ((tC.grown_drawn hd4).but _)); have BX4 := Aside0.mk (blk_grown BX3.out (tC.grown_drawn hd4) (by simp)); clear hd4))
                      go_roundg (20 - (mid + 1)).toNat
                      case measure => exact M.out.2.2.2.2
                      case rel => exact ⟨mid + 1, _, q1, M.out.2.1, M.out.2.2.1, M.out.2.2.2.1, Nat.le_refl _, rfl, by first | rfl | rw [w7e], H, ST4, GW4, BX4⟩
                · rw [if_neg c6] at h
                  injection h with h
                  have c6b : decide (mid ≤ e1) = false := decide_eq_false c6
                  clear x1 x2 m1 m2 hq hm0 hm1 hgg H c6
                  subst h
                  clear w6e w7e
                  have hc5 : wr.cell? ⟨gb, 5, none⟩ = some (.map (some mb)) := (blk_cell ST.out.blk 5).trans rfl
                  have hk0 : wr.cell? ⟨bx, 0, none⟩ = some (.int .i64 rule) := (blk_cell BX.out 0).trans rfl
                  have hk1 : wr.cell? ⟨bx, 1, none⟩ = some (.int .i64 dot) := (blk_cell BX.out 1).trans rfl
                  have hk2 : wr.cell? ⟨bx, 2, none⟩ = some (.int .i64 fr) := (blk_cell BX.out 2).trans rfl
                  have hk3 : wr.cell? ⟨bx, 3, none⟩ = some (.int .i64 en) := (blk_cell BX.out 3).trans rfl
                  obtain ⟨D2, hown2, hgd2⟩ := ST.out.own
                  have hwf := tC.wf (a := sum) (by have := RB.out; omega) (by have := RB.out; omega)
                  obtain ⟨w9, hrun, hW1, hW2⟩ := (show wr.drew.ownsMap Try.prog 179 (plainElem Try.prog 2) mb 65536 D2 from hown2).update tC.law tC.und (by unfold maxLen; omega) HKEY.out (plainElem_int Try.underlying2 hwf)
                  have hW3 : wr.grownBy w9 (some mb) := tC.grown_drewl (n := 1) hW2
                  have FIN := Aside0.mk (And.intro (show tC.St w0 gb mb K N S0 (some ad) AW cR cW rules ws w9 from ⟨Below.grown ST.out.below hW3 (below_size ST.out.below) (fun k e => by injection e with e; omega), blk_grown ST.out.blk hW3 (by intro e; injection e with e; exact ST.out.apart ST.out.blk e), tC.own_put hgd2 HIN.out ⟨_, h0.out⟩ hW1⟩) (GW.out.trans hW3))
                  have hrun' : (Instr.mapUpdate 171 (.map (some mb)) (.agg #[.int .i64 rule, .int .i64 dot, .int .i64 fr, .int .i64 en]) (.int .i64 sum)).run Try.prog wr.drew = .ok () w9 := hrun
                  clear hW1 hW2 hW3 hwf hgd2 hown2 g1 g2 hrun
                  go_wp2
                  go_region
                  all_goals
                    go_wp2
                    go_ret
                    exact ⟨rfl, FIN.out.1, FIN.out.2⟩
    · rw [if_neg hg] at h; cases h
theorem tC.both {w0 : World} {gb mb : Nat} {K N S0 : Int} {A AW : Option Addr} {cR cW : Nat} {rules : List S126} {ws : List Int} (HR0 : Kd.C k126 w0 A rules.length rules) (HW0 : Kd.C (Kd.int .i64) w0 AW ws.length ws) (g1 : w0.heap.size ≤ gb) (g2 : w0.heap.size ≤ mb) (q : Nat) : tC.RestSpec w0 gb mb K N S0 A AW cR cW rules ws q ∧ tC.SignSpec w0 gb mb K N S0 A AW cR cW rules ws q := by
  induction q using Nat.strongRecOn with
  | ind q ih => exact ⟨tC.rest_step HR0 g1 g2 q (fun q' h => (ih q' h).1) (fun q' h => (ih q' h).2), tC.sign_step HR0 HW0 g1 g2 q (fun q' h => (ih q' h).1)⟩
def tC.NewPost (K N S0 : Int) (A AW : Option Addr) (cR cW : Nat) (rules : List S126) (ws : List Int) (w : World) (e : Ending) (w' : World) : Prop :=
  ∃ gb mb, e = .returned (.pointer (some ⟨gb, 0, none⟩)) ∧ w.heap.size ≤ gb ∧ w.heap.size ≤ mb ∧ tC.St w gb mb K N S0 A AW cR cW rules ws w' ∧ w.grownBy w' none
set_option maxHeartbeats 8000000 in
set_option maxRecDepth 100000 in
theorem tC.new {K N S0 : Int} {A AW : Option Addr} {cR cW : Nat} {rules : List S126} {ws : List Int} (w : World) :
    Calls Try.prog 73 #[.agg #[.int .i64 K, .int .i64 N, .int .i64 S0, .slice A rules.length cR], .slice AW ws.length cW] w (tC.NewPost K N S0 A AW cR cW rules ws w) := by
  have hmm := @run_makeMap Try.prog
  go_enter Try.func73, Try.ntmps73
  go_wp2
  go_ret
  refine ⟨w.heap.size + 2, w.heap.size + 1, ?_, by omega, by omega, ⟨?_, ?_, ?_⟩, ?_⟩
  · simp
  · exact below_alloc (below_alloc (below_alloc (Below.refl _ _) _) _) _
  · rw [show w.heap.size + 2 = ((w.alloc (Obj.cells #[.int .i64 K, .int .i64 N, .int .i64 S0, .slice A rules.length cR] 51)).alloc (.map #[] 0)).heap.size by simp]
    exact blk_new _ _
  · refine tC.own_kept (row := none) (w := (w.alloc (Obj.cells #[.int .i64 K, .int .i64 N, .int .i64 S0, .slice A rules.length cR] 51)).alloc (.map #[] 0)) ⟨.map [], ?_, tC.good_nil _⟩ (World.grownBy_alloc _ _ _) (by simp)
    have := World.ownsMap_made (H := Unit) (w.alloc (Obj.cells #[.int .i64 K, .int .i64 N, .int .i64 S0, .slice A rules.length cR] 51)) Try.prog 179 (plainElem Try.prog 2)
    rw [show (w.alloc (Obj.cells #[.int .i64 K, .int .i64 N, .int .i64 S0, .slice A rules.length cR] 51)).heap.size = w.heap.size + 1 by simp] at this
    exact this.mono (by omega)
  · exact (World.grownBy_alloc _ _ _).trans ((World.grownBy_alloc _ _ _).trans (World.grownBy_alloc _ _ _))
theorem tC.ne_map {bx mb : Nat} {w : World} (h : bx < w.heap.size) (h2 : w.heap.size ≤ mb) {o : Nat} {z : Option Nat} : some (⟨bx, o, z⟩ : Addr).block ≠ some mb := by
  intro e
  injection e with e
  simp at e
  omega
def table_Trees.f (k : Nat) (a0_0 : Int) (a0_1 : Int) (a0_2 : Int) (l0_3 : List S126) (l1 : List Int) : Option (Int × Int) :=
  (table_wrong.f k a0_0 a0_1 a0_2 l0_3 l1).bind fun e => if e = 0 then ((table_Proper.f k a0_0 a0_1 a0_2 l0_3).bind fun p => if p = true then ((table_Count.sign k a0_0 l0_3 l1 (wrap64 (a0_0 + a0_2)) 0 (l1.length : Int)).bind fun n => if 1099511627776 < n then some (0, 1) else some (n, 0)) else some (0, 3)) else some (0, e)
theorem table_Trees.mono : ∀ a0 a1 a2 a3 a4 k, LeO (table_Trees.f k a0 a1 a2 a3 a4) (table_Trees.f (k + 1) a0 a1 a2 a3 a4) := by
  intro a0 a1 a2 a3 a4 k
  unfold table_Trees.f
  refine LeO.bind (table_wrong.mono _ _ _ _ _ _) (fun e => ?_)
  split
  · refine LeO.bind (table_Proper.mono _ _ _ _ _) (fun p => ?_)
    split
    · exact LeO.bind ((table_Count.mono _ _ _ _).2.2.1 _ _ _) (fun _ => LeO.refl _)
    · exact LeO.refl _
  · exact LeO.refl _
set_option maxHeartbeats 8000000 in
set_option maxRecDepth 100000 in
theorem table_Trees.calls (k : Nat) (a0_0 : Int) (a0_1 : Int) (a0_2 : Int) (A0_3 : Option Addr) (c0_3 : Nat) (l0_3 : List (S126)) (A1 : Option Addr) (c1 : Nat) (l1 : List Int) (r1 : Int) (r2 : Int) (w : World) (hr0_3 : Kd.C k126 w A0_3 l0_3.length l0_3) (hc0_3 : l0_3.length ≤ c0_3) (hr1 : Kd.C (Kd.int .i64) w A1 l1.length l1) (hc1 : l1.length ≤ c1) (h : table_Trees.f k a0_0 a0_1 a0_2 l0_3 l1 = some (r1, r2)) :
    Calls Try.prog 27 #[.agg #[.int .i64 a0_0, .int .i64 a0_1, .int .i64 a0_2, .slice A0_3 l0_3.length c0_3], .slice A1 l1.length c1] w fun e w' => e = .returned (.tuple #[.int .i64 r1, .int .i64 r2]) ∧ Below w.heap.size w w' := by
  unfold table_Trees.f at h
  replace h := Option.bind_eq_some_iff.mp h
  obtain ⟨e0, hw, h⟩ := h
  have HR0 := Aside0.mk hr0_3
  have HR1 := Aside0.mk hr1
  have HC0 := Aside0.mk hc0_3
  have HC1 := Aside0.mk hc1
  have HWR := Aside0.mk hw
  clear hr0_3 hr1 hc0_3 hc1 hw
  by_cases c : e0 = 0
  · subst c
    rw [if_pos rfl] at h
    replace h := Option.bind_eq_some_iff.mp h
    obtain ⟨p, hp, h⟩ := h
    have HP := Aside0.mk hp
    clear hp
    cases p with
    | false =>
      injection h with h
      injection h with h1 h2
      subst h1 h2
      go_enter Try.func27, Try.ntmps27
      go_wp2_with (first
        | (go_at_call 71; refine (table_wrong.calls k a0_0 a0_1 a0_2 A0_3 c0_3 l0_3 A1 c1 l1 0 _ (Kd.C_alloc HR0.out _) HC0.out (Kd.C_alloc HR1.out _) HC1.out HWR.out).mono ?_; rintro e w1 ⟨rfl, hb⟩; have HB1 := Aside0.mk (below_step (below_alloc (Below.refl _ w) _) hb); have BK1 := Aside0.mk (blk_below (heap_alloc_new w _) hb); clear hb; have k0 : w1.cell? ⟨w.heap.size, 0, none⟩ = some (.int .i64 a0_0) := (blk_cell BK1.out 0).trans rfl; have k1 : w1.cell? ⟨w.heap.size, 1, none⟩ = some (.int .i64 a0_1) := (blk_cell BK1.out 1).trans rfl; have k2 : w1.cell? ⟨w.heap.size, 2, none⟩ = some (.int .i64 a0_2) := (blk_cell BK1.out 2).trans rfl; have k3 : w1.cell? ⟨w.heap.size, 3, none⟩ = some (.slice A0_3 l0_3.length c0_3) := (blk_cell BK1.out 3).trans rfl)
        | (go_at_call 72; refine (table_Proper.calls k a0_0 a0_1 a0_2 A0_3 c0_3 l0_3 false _ (Kd.C_below HR0.out HB1.out) HC0.out HP.out).mono ?_; rintro e w2 ⟨rfl, hb2⟩; have HB2 := Aside0.mk (below_step HB1.out hb2); clear hb2))
      go_ret2
      exact ⟨by first | rfl | simp, HB2.out⟩
    | true =>
      rw [if_pos rfl] at h
      replace h := Option.bind_eq_some_iff.mp h
      obtain ⟨n, hn, h⟩ := h
      obtain ⟨xx, hxx⟩ : ∃ xx, IntKind.i64.wrap (a0_0 + a0_2) = xx := ⟨_, rfl⟩
      rw [← i64_w, hxx] at hn
      have HN := Aside0.mk hn
      have H := Aside0.mk h
      have HX := Aside0.mk hxx
      clear hn h hxx
      go_enter Try.func27, Try.ntmps27
      go_wp2_with (first
        | (go_at_call 71; refine (table_wrong.calls k a0_0 a0_1 a0_2 A0_3 c0_3 l0_3 A1 c1 l1 0 _ (Kd.C_alloc HR0.out _) HC0.out (Kd.C_alloc HR1.out _) HC1.out HWR.out).mono ?_; rintro e w1 ⟨rfl, hb⟩; have HB1 := Aside0.mk (below_step (below_alloc (Below.refl _ w) _) hb); have BK1 := Aside0.mk (blk_below (heap_alloc_new w _) hb); clear hb; have k0 : w1.cell? ⟨w.heap.size, 0, none⟩ = some (.int .i64 a0_0) := (blk_cell BK1.out 0).trans rfl; have k1 : w1.cell? ⟨w.heap.size, 1, none⟩ = some (.int .i64 a0_1) := (blk_cell BK1.out 1).trans rfl; have k2 : w1.cell? ⟨w.heap.size, 2, none⟩ = some (.int .i64 a0_2) := (blk_cell BK1.out 2).trans rfl; have k3 : w1.cell? ⟨w.heap.size, 3, none⟩ = some (.slice A0_3 l0_3.length c0_3) := (blk_cell BK1.out 3).trans rfl)
        | (go_at_call 72; refine (table_Proper.calls k a0_0 a0_1 a0_2 A0_3 c0_3 l0_3 true _ (Kd.C_below HR0.out HB1.out) HC0.out HP.out).mono ?_; rintro e w2 ⟨rfl, hb2⟩; have HB2 := Aside0.mk (below_step HB1.out hb2); have BK2 := Aside0.mk (blk_below BK1.out hb2); clear hb2 k0 k1 k2 k3 BK1 HB1))
      have k0 : w2.cell? ⟨w.heap.size, 0, none⟩ = some (.int .i64 a0_0) := (blk_cell BK2.out 0).trans rfl
      have k1 : w2.cell? ⟨w.heap.size, 1, none⟩ = some (.int .i64 a0_1) := (blk_cell BK2.out 1).trans rfl
      have k2 : w2.cell? ⟨w.heap.size, 2, none⟩ = some (.int .i64 a0_2) := (blk_cell BK2.out 2).trans rfl
      have k3 : w2.cell? ⟨w.heap.size, 3, none⟩ = some (.slice A0_3 l0_3.length c0_3) := (blk_cell BK2.out 3).trans rfl
      have LT := Aside0.mk (show w.heap.size < w2.heap.size from blk_lt BK2.out)
      have HBw := Aside0.mk (show w.heap.size ≤ w2.heap.size from below_size HB2.out)
      generalize hbx : w.heap.size = bx at k0 k1 k2 k3 LT ⊢
      have hxx := HX.out
      go_region_held3 (fun w' => w'.cell? ⟨bx, 0, none⟩ = some (.int .i64 a0_0) ∧ w'.cell? ⟨bx, 1, none⟩ = some (.int .i64 a0_1) ∧ w'.cell? ⟨bx, 2, none⟩ = some (.int .i64 a0_2) ∧ w'.cell? ⟨bx, 3, none⟩ = some (.slice A0_3 l0_3.length c0_3))
        (first | exact ⟨k0, k1, k2, k3⟩ | exact ⟨GN.out.cell k0 (by simp), GN.out.cell k1 (by simp), GN.out.cell k2 (by simp), GN.out.cell k3 (by simp)⟩ | exact GS.out)
        (first
          | (go_at_call 73; refine (tC.new _).mono ?_; rintro e w3 ⟨gb, mb, rfl, g1, g2, st, gn⟩; have ST := Aside0.mk st; have GN := Aside0.mk gn; have G12 := Aside0.mk (And.intro g1 g2); clear g1 g2 st gn)
          | (go_at_call 74; refine ((tC.both (Kd.C_below HR0.out (below_drew1 HB2.out)) (Kd.C_below HR1.out (below_drew1 HB2.out)) G12.out.1 G12.out.2 k).2 xx 0 (l1.length : Int) n _ HN.out ST.out).mono ?_; rintro e w4 ⟨rfl, st4, gw4⟩; have ST4 := Aside0.mk st4; have GS := Aside0.mk (show w4.cell? ⟨bx, 0, none⟩ = some (.int .i64 a0_0) ∧ w4.cell? ⟨bx, 1, none⟩ = some (.int .i64 a0_1) ∧ w4.cell? ⟨bx, 2, none⟩ = some (.int .i64 a0_2) ∧ w4.cell? ⟨bx, 3, none⟩ = some (.slice A0_3 l0_3.length c0_3) from ⟨gw4.cell (GN.out.cell k0 (by simp)) (tC.ne_map LT.out G12.out.2), gw4.cell (GN.out.cell k1 (by simp)) (tC.ne_map LT.out G12.out.2), gw4.cell (GN.out.cell k2 (by simp)) (tC.ne_map LT.out G12.out.2), gw4.cell (GN.out.cell k3 (by simp)) (tC.ne_map LT.out G12.out.2)⟩); clear st4 gw4))
      have HE := Aside0.mk (below_step (below_drew1 HB2.out) ST4.out.below)
      have hh := H.out
      clear hxx GS ST4 GN ST
      by_cases c9 : 1099511627776 < n
      · rw [if_pos c9] at hh
        injection hh with hh
        injection hh with h1 h2
        subst h1 h2
        have c9b : decide ((1099511627776 : Int) < n) = true := decide_eq_true c9
        clear c9 H
        go_wp2
        go_ret2
        exact ⟨by first | rfl | simp, HE.out⟩
      · rw [if_neg c9] at hh
        injection hh with hh
        injection hh with h1 h2
        subst h1 h2
        have c9b : decide ((1099511627776 : Int) < n) = false := decide_eq_false c9
        clear c9 H
        go_wp2
        go_ret2
        exact ⟨by first | rfl | simp, HE.out⟩
  · rw [if_neg c] at h
    injection h with h
    injection h with h1 h2
    subst h1 h2
    have cb : (e0 != 0) = true := bne_iff_ne.2 c
    clear c
    go_enter Try.func27, Try.ntmps27
    go_wp2_with (go_at_call 71; refine (table_wrong.calls k a0_0 a0_1 a0_2 A0_3 c0_3 l0_3 A1 c1 l1 e0 _ (Kd.C_alloc HR0.out _) HC0.out (Kd.C_alloc HR1.out _) HC1.out HWR.out).mono ?_; rintro e w1 ⟨rfl, hb⟩; have HB1 := Aside0.mk (below_step (below_alloc (Below.refl _ w) _) hb); clear hb)
    go_ret2
    exact ⟨by first | rfl | simp, HB1.out⟩

end Go.Proofs.Ythgiiikjcfhgjaa.GT
