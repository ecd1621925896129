-- Written by ext.py, a program of this session.
import Derived.Test.YthgiiikjcfhgjaaGU0
import Derived.Test.YthgiiikjcfhgjaaGU6
import Derived.Test.YthgiiikjcfhgjaaGU9
namespace Go.Proofs.Ythgiiikjcfhgjaa.GU
open Go.RowKit Go.Proofs.YthgiiikjcfhgjaaW.PrintWords Go.Proofs.YthgiiikjcfhgjaaW.PrintLast Go.Proofs.YthgiiikjcfhgjaaW.PrintMore
attribute [local go_sem] max2_int min2_int max_two min_two max_three min_three max_four min_four cellIs_set   -- for this text's walks alone
set_option linter.unusedVariables false
set_option linter.unusedSimpArgs false

/-! ### plain_Steps: function 31 -/
set_option maxRecDepth 100000 in
theorem tC.laidOut : laidOutB Try.prog = true := by kernel_rfl
set_option maxRecDepth 100000 in
theorem tC.row : (179 : TypeId) < Try.prog.types.size := of_decide_eq_true (by kernel_rfl)
set_option maxRecDepth 100000 in
theorem tC.wide : (match Try.prog.underlying 179 with | some (.array _ _) | some (.struct _) => true | _ => false) = true := by rw [Try.underlying179]
set_option maxRecDepth 100000 in
theorem tC.kt : Try.prog.keyTypeAt 2 179 = true := by kernel_rfl
set_option maxRecDepth 100000 in
theorem tC.law : Go.Maps.Keyed Try.prog 179 := Go.Maps.Keyed.of_law (deep_law_laid tC.laidOut (m := 2) (by omega) tC.row tC.kt tC.wide)
set_option maxRecDepth 100000 in
theorem tC.und : Try.prog.underlying 171 = some (.map 179 2) := by kernel_rfl
set_option maxRecDepth 100000 in
theorem tC.size : Try.prog.types.size = (Try.prog.types.size - 2) + 1 + 1 := by
  have : (179 : Nat) < Try.prog.types.size := tC.row
  omega
def tC.kv (a b c d : Int) : Value := .agg #[.int .i64 a, .int .i64 b, .int .i64 c, .int .i64 d]
def tC.kl (a b c d : Int) : Lit := .string (keyBytes [.int .i64 a, .int .i64 b, .int .i64 c, .int .i64 d])
set_option maxRecDepth 100000 in
theorem tC.key {a b c d : Int} (ha : (Lit.int .i64 a).wf = true) (hb : (Lit.int .i64 b).wf = true) (hc : (Lit.int .i64 c).wf = true) (hd : (Lit.int .i64 d).wf = true) : keyOf Try.prog 179 (tC.kv a b c d) = some (tC.kl a b c d) := by
  have h1 : Try.prog.cellsOf 179 = 4 := by kernel_rfl
  have h2 : Try.prog.keyType 179 = true := by kernel_rfl
  have h3 : Try.prog.cellsOf 3 = 1 := by kernel_rfl
  unfold keyOf tC.kv
  simp only [Try.underlying179]
  rw [if_pos (by simp [h2, Value.formed, Try.underlying179, h1])]
  unfold Program.keyLits
  simp only [Try.underlying179, Value.cells]
  rw [if_pos (by rw [h1]; exact ⟨rfl, by kernel_rfl⟩), tC.size]
  simp only [List.mapM_cons, List.mapM_nil, h3, Program.keyLits, Try.underlying3, List.drop, List.take]
  simp [ha, hb, hc, hd, tC.kl]
set_option maxRecDepth 100000 in
theorem tC.inj {a b c d a' b' c' d' : Int} (ha : (Lit.int .i64 a).wf = true) (hb : (Lit.int .i64 b).wf = true) (hc : (Lit.int .i64 c).wf = true) (hd : (Lit.int .i64 d).wf = true) (ha' : (Lit.int .i64 a').wf = true) (hb' : (Lit.int .i64 b').wf = true) (hc' : (Lit.int .i64 c').wf = true) (hd' : (Lit.int .i64 d').wf = true) (h : tC.kl a b c d = tC.kl a' b' c' d') : a = a' ∧ b = b' ∧ c = c' ∧ d = d' := by
  have := tC.law.inj (tC.key ha hb hc hd) (h ▸ tC.key ha' hb' hc' hd')
  simpa [tC.kv] using this
set_option maxRecDepth 100000 in
theorem tC.zero (w : World) : (zeroValue 2).run Try.prog w = .ok (.int .i64 0) w := by kernel_rfl
theorem tC.nodup_sub {α : Type} : ∀ (M L : List α), M.Nodup → M ⊆ L → M.length ≤ L.length := by
  classical
  intro M
  induction M with
  | nil => intro L _ _; simp
  | cons x M ih =>
    intro L hn hs
    rw [List.nodup_cons] at hn
    have hx : x ∈ L := hs List.mem_cons_self
    have := ih (L.erase x) hn.2 (fun y hy => (List.mem_erase_of_ne (fun e : y = x => hn.1 (e ▸ hy))).2 (hs (List.mem_cons_of_mem _ hy)))
    rw [List.length_erase_of_mem hx] at this
    have hp : 0 < L.length := List.length_pos_of_mem hx
    rw [List.length_cons]
    omega
theorem tC.wf {a : Int} (h0 : -9223372036854775808 ≤ a) (h1 : a ≤ 9223372036854775807) : (Lit.int .i64 a).wf = true := by simp [Lit.wf, IntKind.min, IntKind.max, IntKind.signed, IntKind.bits]; omega
/-- What the map says: for some stretches what is counted over them. -/
structure tC.Good (val : Int → Int → Int → Int → Int → Prop) (D : DataW Unit) : Prop where
  m : Go.Maps.Tidy D
  keyed : ∀ es, D = .map es → ∀ p ∈ es, p.1.sameKey p.1 = true
  g : ∀ l, Go.Maps.has D l = true → ∃ a b c d v : Int, (0 ≤ a ∧ a < 16 ∧ 0 ≤ b ∧ b < 16 ∧ 0 ≤ c ∧ c < 16 ∧ 0 ≤ d ∧ d < 16) ∧ l = tC.kl a b c d ∧ val a b c d v ∧ ∀ z, D.atKey l z = .lit (.int .i64 v)
theorem tC.good_nil (val : Int → Int → Int → Int → Int → Prop) : tC.Good val (.map []) := ⟨Go.Maps.tidy_empty, fun es e p hp => by injection e with e; subst e; simp at hp, fun l h => by simp [Go.Maps.has] at h⟩
theorem tC.good_put {val : Int → Int → Int → Int → Int → Prop} {D : DataW Unit} (h : tC.Good val D) {a b c d v : Int} (hr : 0 ≤ a ∧ a < 16 ∧ 0 ≤ b ∧ b < 16 ∧ 0 ≤ c ∧ c < 16 ∧ 0 ≤ d ∧ d < 16) (hv : val a b c d v) (ht : Go.Maps.Tidy (D.put (tC.kl a b c d) (.lit (.int .i64 v)))) (hk2 : ∀ es, D.put (tC.kl a b c d) (.lit (.int .i64 v)) = .map es → ∀ p ∈ es, p.1.sameKey p.1 = true) : tC.Good val (D.put (tC.kl a b c d) (.lit (.int .i64 v))) := by
  have hk : WideAt.IsKeyLit (tC.kl a b c d) := trivial
  refine ⟨ht, hk2, fun l hl => ?_⟩
  by_cases e : l = tC.kl a b c d
  · subst e
    exact ⟨a, b, c, d, v, hr, rfl, hv, fun z => Go.Maps.atKey_put_same h.m.isMap hk _ _⟩
  · rw [Go.Maps.has_put_other e] at hl
    obtain ⟨a', b', c', d', v', r, e2, hv', hat⟩ := h.g l hl
    exact ⟨a', b', c', d', v', r, e2, hv', fun z => by rw [Go.Maps.atKey_put_other e]; exact hat z⟩
theorem tC.good_size {val : Int → Int → Int → Int → Int → Prop} {D : DataW Unit} (h : tC.Good val D) : Go.Maps.size D ≤ 65536 := by
  obtain ⟨es, rfl, hp⟩ := h.m
  rw [Go.Maps.size_eq]
  have hn : (es.map (·.1)).Nodup := by
    rw [List.Nodup, List.pairwise_map]
    exact hp
  have hs : es.map (·.1) ⊆ (List.range 65536).map (fun n => tC.kl ((n / 4096 : Nat) : Int) ((n / 256 % 16 : Nat) : Int) ((n / 16 % 16 : Nat) : Int) ((n % 16 : Nat) : Int)) := by
    intro l hl
    obtain ⟨p, hpm, rfl⟩ := List.mem_map.1 hl
    have hh : Go.Maps.has (.map es : DataW Unit) p.1 = true ∨ p.1.sameKey p.1 = false := by
      by_cases hk : p.1.sameKey p.1 = true
      · left
        rw [Go.Maps.has_eq, List.any_eq_true]
        exact ⟨p, hpm, hk⟩
      · right
        simpa using hk
    rcases hh with hh | hh
    · obtain ⟨a, b, c, d, v, r, e2, _, _⟩ := h.g p.1 hh
      obtain ⟨A, rfl⟩ := Int.eq_ofNat_of_zero_le r.1
      obtain ⟨B, rfl⟩ := Int.eq_ofNat_of_zero_le r.2.2.1
      obtain ⟨C, rfl⟩ := Int.eq_ofNat_of_zero_le r.2.2.2.2.1
      obtain ⟨E, rfl⟩ := Int.eq_ofNat_of_zero_le r.2.2.2.2.2.2.1
      rw [List.mem_map]
      refine ⟨A * 4096 + B * 256 + C * 16 + E, by rw [List.mem_range]; omega, ?_⟩
      rw [e2]
      congr 2 <;> omega
    · exact absurd (h.keyed es rfl p hpm) (by rw [hh]; simp)
  have := tC.nodup_sub _ _ hn hs
  rw [List.length_map, List.length_map, List.length_range] at this
  exact this
theorem tC.at_none {D : DataW Unit} {l : Lit} {z : DataW Unit} (h : Go.Maps.has D l = false) : D.atKey l z = z := Go.Maps.atKey_of_not_has h z
/-- The map of a Count, of its own and right. -/
def tC.Own (val : Int → Int → Int → Int → Int → Prop) (wr : World) (mb : Nat) : Prop := ∃ D : DataW Unit, wr.ownsMap Try.prog 179 (plainElem Try.prog 2) mb 65536 D ∧ tC.Good val D
theorem tC.own_put {val : Int → Int → Int → Int → Int → Prop} {wr : World} {mb : Nat} {D : DataW Unit} (h : tC.Good val D) {a b c d v : Int} (hr : 0 ≤ a ∧ a < 16 ∧ 0 ≤ b ∧ b < 16 ∧ 0 ≤ c ∧ c < 16 ∧ 0 ≤ d ∧ d < 16) (hv : val a b c d v) (ho : wr.ownsMap Try.prog 179 (plainElem Try.prog 2) mb (65536 + 1) (D.put (tC.kl a b c d) (.lit (.int .i64 v)))) : tC.Own val wr mb := by
  have hg := tC.good_put h hr hv (ho.tidy tC.law) (fun es e p hp => by
    obtain ⟨es', e', _, hk⟩ := ho.entries tC.law
    rw [e] at e'
    injection e' with e'
    subst e'
    exact WideAt.sameKey_self (hk p hp))
  refine ⟨_, ?_, hg⟩
  have hs := tC.good_size hg
  obtain ⟨es, clock, h1, h2, h3, h4⟩ := ho
  refine ⟨es, clock, h1, h2, ?_, h4⟩
  rw [h4, Go.Maps.size_eq, length_sorted, List.length_map] at hs
  simpa using hs
theorem tC.own_kept {val : Int → Int → Int → Int → Int → Prop} {w w' : World} {mb : Nat} {row : Option Nat} (h : tC.Own val w mb) (hg : w.grownBy w' row) (hne : some mb ≠ row) : tC.Own val w' mb := by
  obtain ⟨D, h1, h2⟩ := h
  exact ⟨D, h1.kept hg hne, h2⟩
mutual
def table_Count.rest : Nat → Int → List S126 → List Int → Int → Int → Int → Int → Option Int
  | 0, _, _, _, _, _, _, _ => none
  | q + 1, K, rules, ws, rule, dot, fr, en =>
    if 0 ≤ rule ∧ rule < (rules.length : Int) ∧ rules.length ≤ 10 ∧ 0 ≤ dot ∧ dot ≤ ((rd_T126 rules rule).f1.length : Int) ∧ (rd_T126 rules rule).f1.length ≤ 4 ∧ 0 ≤ fr ∧ fr ≤ en ∧ en ≤ (ws.length : Int) ∧ ws.length ≤ 12 then
      (if en - fr < ((rd_T126 rules rule).f1.length : Int) - dot ∨ ((rd_T126 rules rule).f1.length : Int) = dot then some (if ((rd_T126 rules rule).f1.length : Int) = dot ∧ fr = en then 1 else 0)
      else (table_Count.restL q K rules ws rule dot fr en (fr + 1) 0).bind fun r => if 0 ≤ r ∧ r ≤ 1099511627777 then some r else none)
    else none
def table_Count.restL : Nat → Int → List S126 → List Int → Int → Int → Int → Int → Int → Int → Option Int
  | 0, _, _, _, _, _, _, _, _, _ => none
  | q + 1, K, rules, ws, rule, dot, fr, en, mid, sum =>
    if mid ≤ en - (((rd_T126 rules rule).f1.length : Int) - dot) + 1 then
      (if ((rd_T126 rules rule).f1.length : Int) - dot = 1 ∧ mid < en then table_Count.restL q K rules ws rule dot fr en (mid + 1) sum
      else (table_Count.rest q K rules ws rule (dot + 1) mid en).bind fun n =>
        if n > 0 then (table_Count.sign q K rules ws (rd (rd_T126 rules rule).f1 dot) fr mid).bind fun s => (table_times.f s n).bind fun t => table_Count.restL q K rules ws rule dot fr en (mid + 1) (mn (wrap64 (sum + t)) 1099511627777)
        else table_Count.restL q K rules ws rule dot fr en (mid + 1) sum)
    else some sum
def table_Count.sign : Nat → Int → List S126 → List Int → Int → Int → Int → Option Int
  | 0, _, _, _, _, _, _ => none
  | q + 1, K, rules, ws, x, fr, en =>
    if 0 ≤ fr ∧ fr ≤ en ∧ en ≤ (ws.length : Int) ∧ ws.length ≤ 12 ∧ rules.length ≤ 10 then
      (if x < K then some (if en = fr + 1 ∧ rd ws fr = x then 1 else 0)
      else table_Count.signL q K rules ws x fr en 0 0)
    else none
def table_Count.signL : Nat → Int → List S126 → List Int → Int → Int → Int → Int → Int → Option Int
  | 0, _, _, _, _, _, _, _, _ => none
  | q + 1, K, rules, ws, x, fr, en, i, sum =>
    if i < (rules.length : Int) then
      (if (rd_T126 rules i).f0 = wrap64 (x - K) then (table_Count.rest q K rules ws i 0 fr en).bind fun n => table_Count.signL q K rules ws x fr en (i + 1) (wrap64 (sum + n))
      else table_Count.signL q K rules ws x fr en (i + 1) sum)
    else some (mn sum 1099511627777)
end
theorem table_Count.mono (K : Int) (rules : List S126) (ws : List Int) : ∀ q,
    (∀ a b c d, LeO (table_Count.rest q K rules ws a b c d) (table_Count.rest (q + 1) K rules ws a b c d)) ∧
    (∀ a b c d e f, LeO (table_Count.restL q K rules ws a b c d e f) (table_Count.restL (q + 1) K rules ws a b c d e f)) ∧
    (∀ a b c, LeO (table_Count.sign q K rules ws a b c) (table_Count.sign (q + 1) K rules ws a b c)) ∧
    (∀ a b c d e, LeO (table_Count.signL q K rules ws a b c d e) (table_Count.signL (q + 1) K rules ws a b c d e)) := by
  intro q
  induction q with
  | zero =>
    refine ⟨fun a b c d r h => ?_, fun a b c d e f r h => ?_, fun a b c r h => ?_, fun a b c d e r h => ?_⟩
    · rw [table_Count.rest] at h; cases h
    · rw [table_Count.restL] at h; cases h
    · rw [table_Count.sign] at h; cases h
    · rw [table_Count.signL] at h; cases h
  | succ q ih =>
    obtain ⟨i1, i2, i3, i4⟩ := ih
    refine ⟨fun a b c d => ?_, fun a b c d e f => ?_, fun a b c => ?_, fun a b c d e => ?_⟩
    · rw [table_Count.rest, table_Count.rest]
      split
      · split
        · exact LeO.refl _
        · exact LeO.bind (i2 _ _ _ _ _ _) (fun _ => LeO.refl _)
      · exact LeO.refl _
    · rw [table_Count.restL, table_Count.restL]
      split
      · split
        · exact i2 _ _ _ _ _ _
        · refine LeO.bind (i1 _ _ _ _) (fun n => ?_)
          split
          · exact LeO.bind (i3 _ _ _) (fun _ => LeO.bind (LeO.refl _) (fun _ => i2 _ _ _ _ _ _))
          · exact i2 _ _ _ _ _ _
      · exact LeO.refl _
    · rw [table_Count.sign, table_Count.sign]
      split
      · split
        · exact LeO.refl _
        · exact i4 _ _ _ _ _
      · exact LeO.refl _
    · rw [table_Count.signL, table_Count.signL]
      split
      · split
        · exact LeO.bind (i1 _ _ _ _) (fun _ => i4 _ _ _ _ _)
        · exact i4 _ _ _ _ _
      · exact LeO.refl _
theorem table_Count.rest_le {K : Int} {rules : List S126} {ws : List Int} {a b c d v : Int} {q : Nat} (h : table_Count.rest q K rules ws a b c d = some v) : ∀ m, table_Count.rest (q + m) K rules ws a b c d = some v
  | 0 => h
  | m + 1 => (table_Count.mono K rules ws (q + m)).1 a b c d v (table_Count.rest_le h m)
theorem table_Count.rest_one {K : Int} {rules : List S126} {ws : List Int} {a b c d v v' : Int} {q q' : Nat} (h : table_Count.rest q K rules ws a b c d = some v) (h' : table_Count.rest q' K rules ws a b c d = some v') : v = v' := by
  have h1 := table_Count.rest_le h q'
  have h2 := table_Count.rest_le h' q
  rw [Nat.add_comm] at h2
  exact Option.some.inj (h1.symm.trans h2)
theorem tC.grown_drew {w w' : World} {row : Option Nat} (h : w.grownBy w' row) (n : Nat) : w.grownBy (w'.drewN n) row := ⟨h.os, h.tape, h.output, h.size, h.block⟩
structure tC.St (w0 : World) (gb mb : Nat) (K N S0 : Int) (A AW : Option Addr) (cR cW : Nat) (rules : List S126) (ws : List Int) (wr : World) : Prop where
  below : Below w0.heap.size w0 wr
  blk : wr.heap[gb]? = some (.cells #[.int .i64 K, .int .i64 N, .int .i64 S0, .slice A rules.length cR, .slice AW ws.length cW, .map (some mb)] 173 (0, 0))
  own : tC.Own (fun a b c d v => ∃ q, table_Count.rest q K rules ws a b c d = some v) wr mb
theorem tC.St.kept {w0 : World} {gb mb : Nat} {K N S0 : Int} {A AW : Option Addr} {cR cW : Nat} {rules : List S126} {ws : List Int} {w w' : World} (h : tC.St w0 gb mb K N S0 A AW cR cW rules ws w) (hg : w.grownBy w' none) : tC.St w0 gb mb K N S0 A AW cR cW rules ws w' :=
  ⟨Below.grown h.below hg (below_size h.below) (fun k e => by cases e), blk_grown h.blk hg (by simp), tC.own_kept h.own hg (by simp)⟩
def tC.RestSpec (w0 : World) (gb mb : Nat) (K N S0 : Int) (A AW : Option Addr) (cR cW : Nat) (rules : List S126) (ws : List Int) (q : Nat) : Prop :=
  ∀ (rule dot fr en r : Int) (w : World), table_Count.rest q K rules ws rule dot fr en = some r → tC.St w0 gb mb K N S0 A AW cR cW rules ws w →
    Calls Try.prog 78 #[.pointer (some ⟨gb, 0, none⟩), .int .i64 rule, .int .i64 dot, .int .i64 fr, .int .i64 en] w fun e w' => e = .returned (.int .i64 r) ∧ tC.St w0 gb mb K N S0 A AW cR cW rules ws w' ∧ w.grownBy w' (some mb)
def tC.SignSpec (w0 : World) (gb mb : Nat) (K N S0 : Int) (A AW : Option Addr) (cR cW : Nat) (rules : List S126) (ws : List Int) (q : Nat) : Prop :=
  ∀ (x fr en r : Int) (w : World), table_Count.sign q K rules ws x fr en = some r → tC.St w0 gb mb K N S0 A AW cR cW rules ws w →
    Calls Try.prog 74 #[.pointer (some ⟨gb, 0, none⟩), .int .i64 x, .int .i64 fr, .int .i64 en] w fun e w' => e = .returned (.int .i64 r) ∧ tC.St w0 gb mb K N S0 A AW cR cW rules ws w' ∧ w.grownBy w' (some mb)
theorem tC.St.apart {w0 : World} {gb mb : Nat} {K N S0 : Int} {A AW : Option Addr} {cR cW : Nat} {rules : List S126} {ws : List Int} {w : World} (h : tC.St w0 gb mb K N S0 A AW cR cW rules ws w) {g : Nat} {cs : Array Value} {t : TypeId} {fr : Nat × Nat} (hb : w.heap[g]? = some (.cells cs t fr)) : g ≠ mb := by
  obtain ⟨D, ⟨es, clock, h1, _⟩, _⟩ := h.own
  rintro rfl
  rw [h1] at hb
  cases hb
theorem tC.blk_map {w0 : World} {gb mb : Nat} {K N S0 : Int} {A AW : Option Addr} {cR cW : Nat} {rules : List S126} {ws : List Int} {w w' : World} {g : Nat} {cs : Array Value} {t : TypeId} (hb : w.heap[g]? = some (.cells cs t (0, 0))) (h : tC.St w0 gb mb K N S0 A AW cR cW rules ws w) (hg : w.grownBy w' (some mb)) : w'.heap[g]? = some (.cells cs t (0, 0)) :=
  blk_grown hb hg (by intro e; injection e with e; exact h.apart hb e)
theorem tC.grown_drawn {w w' : World} (h : Drawn0 w w') : w.grownBy w' none := by
  obtain ⟨n, rfl⟩ := h
  exact tC.grown_drew (World.grownBy.refl _ _) n
theorem tC.grown_drewl {w w' : World} {row : Option Nat} {n : Nat} (h : (w.drewN n).grownBy w' row) : w.grownBy w' row := ⟨h.os, h.tape, h.output, h.size, h.block⟩
set_option maxHeartbeats 8000000 in
set_option maxRecDepth 100000 in
theorem tC.sign_step {w0 : World} {gb mb : Nat} {K N S0 : Int} {A AW : Option Addr} {cR cW : Nat} {rules : List S126} {ws : List Int} (HR0 : Kd.C k126 w0 A rules.length rules) (HW0 : Kd.C (Kd.int .i64) w0 AW ws.length ws) (g1 : w0.heap.size ≤ gb) (g2 : w0.heap.size ≤ mb) (q : Nat) (IH : ∀ q', q' < q → tC.RestSpec w0 gb mb K N S0 A AW cR cW rules ws q') : tC.SignSpec w0 gb mb K N S0 A AW cR cW rules ws q := by
  intro x fr en r w h st
  cases q with
  | zero => rw [table_Count.sign] at h; cases h
  | succ q =>
    rw [table_Count.sign] at h
    have hc0 : w.cell? ⟨gb, 0, none⟩ = some (.int .i64 K) := (blk_cell st.blk 0).trans rfl
    have hc3 : w.cell? ⟨gb, 3, none⟩ = some (.slice A rules.length cR) := (blk_cell st.blk 3).trans rfl
    have hc4 : w.cell? ⟨gb, 4, none⟩ = some (.slice AW ws.length cW) := (blk_cell st.blk 4).trans rfl
    have HR := Aside0.mk HR0
    have HW := Aside0.mk HW0
    have ST := Aside0.mk st
    have IH' := Aside0.mk IH
    clear HR0 HW0 st IH
    by_cases hg : 0 ≤ fr ∧ fr ≤ en ∧ en ≤ (ws.length : Int) ∧ ws.length ≤ 12 ∧ rules.length ≤ 10
    · rw [if_pos hg] at h
      obtain ⟨p1, p2, p3, p4, p5⟩ := hg
      have hw1 : wrap64 (fr + 1) = fr + 1 := by unfold wrap64; omega
      by_cases c : x < K
      · rw [if_pos c] at h
        have cb : decide (x < K) = true := decide_eq_true c
        injection h with h
        by_cases c2 : en = fr + 1
        · have cb2 : (en == fr + 1) = true := by rw [beq_iff_eq]; exact c2
          have p6 : fr < (ws.length : Int) := by omega
          obtain ⟨adw, rfl, hcw⟩ := Kd.at_int HW.out fr p1 p6
          have hcw2 := pw_cell_below ST.out.below hcw
          have p1t := eq_true p1
          have p6t := eq_true p6
          by_cases c3 : rd ws fr = x
          · have hr : r = 1 := by rw [← h, if_pos ⟨c2, c3⟩]
            subst hr
            have c3b : (rd ws fr == x) = true := by rw [beq_iff_eq]; exact c3
            clear h hcw p2 p3 p4 p5
            go_enter Try.func74, Try.ntmps74
            go_wp2
            go_ret
            exact ⟨rfl, ST.out, World.grownBy.refl _ _⟩
          · have hr : r = 0 := by rw [← h, if_neg (fun e => c3 e.2)]
            subst hr
            have c3b : (rd ws fr == x) = false := by rw [beq_eq_false_iff_ne]; exact c3
            clear h hcw p2 p3 p4 p5
            go_enter Try.func74, Try.ntmps74
            go_wp2
            go_ret
            exact ⟨rfl, ST.out, World.grownBy.refl _ _⟩
        · have cb2 : (en == fr + 1) = false := by rw [beq_eq_false_iff_ne]; exact c2
          have hr : r = 0 := by rw [← h, if_neg (fun e => c2 e.1)]
          subst hr
          clear h p1 p2 p3 p4 p5
          go_enter Try.func74, Try.ntmps74
          go_wp2
          go_ret
          exact ⟨rfl, ST.out, World.grownBy.refl _ _⟩
      · rw [if_neg c] at h
        have cb : decide (x < K) = false := decide_eq_false c
        have H := Aside0.mk h
        clear h hc4 p1 p2 p3 p4 hw1
        go_enter Try.func74, Try.ntmps74
        go_wp2
        go_loopg [9, 40] rules.length (fun gg v9 v40 wr => ∃ (i : Nat) (sum : Int) (q' : Nat), q' ≤ q ∧ i ≤ rules.length ∧ rules.length - i ≤ gg ∧ v9 = .int .i64 sum ∧ v40 = .int .i64 i ∧ Aside0 (table_Count.signL q' K rules ws x fr en i sum = some r) ∧ Aside0 (tC.St w0 gb mb K N S0 A AW cR cW rules ws wr) ∧ Aside0 (w.grownBy wr (some mb)))
        case atStart => exact ⟨0, 0, q, Nat.le_refl _, Nat.zero_le _, by omega, rfl, rfl, ⟨H.out⟩, ⟨ST.out⟩, ⟨World.grownBy.refl _ _⟩⟩
        case round =>
          obtain ⟨i, sum, q', hq, hi, hgg, rfl, rfl, H, ST, GW⟩ := hrel
          cases q' with
          | zero => have h := H.out; rw [table_Count.signL] at h; cases h
          | succ q1 =>
            have h := H.out
            rw [table_Count.signL] at h
            by_cases hlt : i < rules.length
            · have hltz : (i : Int) < (rules.length : Int) := by omega
              have m1 : q1 < q + 1 := by omega
              have m2 : q1 ≤ q := by omega
              have m3 : i + 1 ≤ rules.length := by omega
              have m4 : rules.length - (i + 1) < gk := by omega
              have M := Aside0.mk (And.intro m1 (And.intro m2 (And.intro m3 m4)))
              clear m1 m2 m3 m4 hq hi hgg
              rw [if_pos hltz] at h
              have hltb : decide ((i : Int) < (rules.length : Int)) = true := decide_eq_true hltz
              obtain ⟨ad, A1, c1, e1, hx0, hx1, hl1, hi1⟩ := at_T126 HR.out (i : Int) (by omega) hltz
              cases e1
              have hy0 := pw_cell_below ST.out.below hx0
              have hy1 := pw_cell_below ST.out.below hx1
              have hcr0 : ∀ o, (wr.alloc o).cell? ⟨gb, 0, none⟩ = some (.int .i64 K) := fun o => Lib.cell?_alloc_some _ ((blk_cell ST.out.blk 0).trans rfl)
              clear hx0 hx1 hi1 hl1 H
              rw [Int.toNat_natCast] at hy0 hy1
              generalize (rd_T126 rules (i : Int)).f0 = f0 at *
              generalize (rd_T126 rules (i : Int)).f1 = f1 at *
              by_cases c5 : f0 = wrap64 (x - K)
              · rw [if_pos c5] at h
                have c5b : wrap64 (x - K) = f0 := c5.symm
                clear c5
                obtain ⟨n, hn, h⟩ := Option.bind_eq_some_iff.mp h
                have hn' := Aside0.mk hn
                have H := Aside0.mk h
                clear hn h
                have hr0 : (0 : Int) ≤ (i : Int) := by omega
                have hi64 : wrap64 ((i : Int) + 1) = (i : Int) + 1 := by unfold wrap64; omega
                have hltz' := eq_true hltz
                have hr0' := eq_true hr0
                go_wp2
                have hq0 : (wr.alloc (Obj.cells #[.int .i64 f0, .slice A1 f1.length c1] 126)).cell? ⟨wr.heap.size, 0, none⟩ = some (.int .i64 f0) := by simp
                have hq1 := hcr0 (Obj.cells #[.int .i64 f0, .slice A1 f1.length c1] 126)
                have GA := Aside0.mk (World.grownBy_alloc wr (Obj.cells #[.int .i64 f0, .slice A1 f1.length c1] 126) none)
                generalize wr.alloc (Obj.cells #[.int .i64 f0, .slice A1 f1.length c1] 126) = w1 at *
                generalize wr.heap.size = bx at *
                clear hcr0 hy0 hy1 hr0' hltz' hltb hltz hr0 hc0 hc3
                go_quiet (fail)
                go_wp2_with (go_at_call 78; refine ((IH'.out q1 M.out.1) (i : Int) 0 fr en n _ hn'.out (ST.out.kept (tC.grown_drew GA.out _))).mono ?_; rintro e w2 ⟨rfl, ST2', GW2'⟩; have ST2 := Aside0.mk ST2'; have GW2 := Aside0.mk GW2'; clear ST2' GW2')
                go_roundg (rules.length - (i + 1))
                case measure => exact M.out.2.2.2
                case rel => exact ⟨i + 1, _, q1, M.out.2.1, M.out.2.2.1, Nat.le_refl _, rfl, by first | rfl | simp, H, ST2, ⟨(GW.out.trans ((GA.out.but _).trans (tC.grown_drew (World.grownBy.refl _ _) _))).trans GW2.out⟩⟩
              · rw [if_neg c5] at h
                have H := Aside0.mk h
                clear h
                generalize hwy : wrap64 (x - K) = y at *
                have c5b : (f0 == y) = false := by rw [beq_eq_false_iff_ne]; exact c5
                clear c5
                have hr0 : (0 : Int) ≤ (i : Int) := by omega
                have hi64 : wrap64 ((i : Int) + 1) = (i : Int) + 1 := by unfold wrap64; omega
                have hltz' := eq_true hltz
                have hr0' := eq_true hr0
                go_wp2
                have hq0 : (wr.alloc (Obj.cells #[.int .i64 f0, .slice A1 f1.length c1] 126)).cell? ⟨wr.heap.size, 0, none⟩ = some (.int .i64 f0) := by simp
                have hq1 := hcr0 (Obj.cells #[.int .i64 f0, .slice A1 f1.length c1] 126)
                have GA := Aside0.mk (World.grownBy_alloc wr (Obj.cells #[.int .i64 f0, .slice A1 f1.length c1] 126) none)
                generalize wr.alloc (Obj.cells #[.int .i64 f0, .slice A1 f1.length c1] 126) = w1 at *
                generalize wr.heap.size = bx at *
                clear hcr0 hy0 hy1 hr0' hltz' hltb hltz hr0 hc0 hc3
                go_quiet (fail)
                go_wp2
                go_roundg (rules.length - (i + 1))
                case measure => exact M.out.2.2.2
                case rel => exact ⟨i + 1, _, q1, M.out.2.1, M.out.2.2.1, Nat.le_refl _, rfl, by first | rfl | simp, H, ⟨ST.out.kept (tC.grown_drew GA.out _)⟩, ⟨GW.out.trans (tC.grown_drew (GA.out.but _) _)⟩⟩
            · have hltz : ¬ (i : Int) < (rules.length : Int) := by omega
              rw [if_neg hltz] at h
              have hltb : decide ((i : Int) < (rules.length : Int)) = false := decide_eq_false hltz
              injection h with hsum
              clear hc0 hc3 H
              go_wp2
              all_goals
                go_ret
                refine ⟨?_, ST.out, GW.out⟩
                rw [← hsum]
                unfold mn
                split
                all_goals first | rfl | (exfalso; omega)
    · rw [if_neg hg] at h; cases h
set_option maxHeartbeats 8000000 in
set_option maxRecDepth 100000 in
theorem tC.rest_step {w0 : World} {gb mb : Nat} {K N S0 : Int} {A AW : Option Addr} {cR cW : Nat} {rules : List S126} {ws : List Int} (HR0 : Kd.C k126 w0 A rules.length rules) (g1 : w0.heap.size ≤ gb) (g2 : w0.heap.size ≤ mb) (q : Nat) (IH : ∀ q', q' < q → tC.RestSpec w0 gb mb K N S0 A AW cR cW rules ws q') (IS : ∀ q', q' < q → tC.SignSpec w0 gb mb K N S0 A AW cR cW rules ws q') : tC.RestSpec w0 gb mb K N S0 A AW cR cW rules ws q := by
  intro rule dot fr en r w h st
  cases q with
  | zero => rw [table_Count.rest] at h; cases h
  | succ q =>
    have h0 := Aside0.mk h
    rw [table_Count.rest] at h
    by_cases hg : 0 ≤ rule ∧ rule < (rules.length : Int) ∧ rules.length ≤ 10 ∧ 0 ≤ dot ∧ dot ≤ ((rd_T126 rules rule).f1.length : Int) ∧ (rd_T126 rules rule).f1.length ≤ 4 ∧ 0 ≤ fr ∧ fr ≤ en ∧ en ≤ (ws.length : Int) ∧ ws.length ≤ 12
    · rw [if_pos hg] at h
      obtain ⟨p1, p2, p3, p4, p5, p6, p7, p8, p9, p10⟩ := hg
      obtain ⟨ad, A1, c1, e1, hx0, hx1, hl1, hi1⟩ := at_T126 HR0 rule p1 p2
      cases e1
      have hy1 := pw_cell_below st.below hx1
      have hc3 : w.cell? ⟨gb, 3, none⟩ = some (.slice (some ad) rules.length cR) := (blk_cell st.blk 3).trans rfl
      have hc5 : w.cell? ⟨gb, 5, none⟩ = some (.map (some mb)) := (blk_cell st.blk 5).trans rfl
      have HI := Aside0.mk hi1
      have ST := Aside0.mk st
      have IHr := Aside0.mk IH
      have IHs := Aside0.mk IS
      clear hx0 hx1 hi1 st IH IS hl1 HR0
      obtain ⟨lf, hlf⟩ : ∃ lf : Int, lf = ((rd_T126 rules rule).f1.length : Int) - dot := ⟨_, rfl⟩
      obtain ⟨sp, hsp⟩ : ∃ sp : Int, sp = en - fr := ⟨_, rfl⟩
      have b1 : ((rd_T126 rules rule).f1.length : Int) = dot ↔ lf = 0 := by omega
      have b2 : en - fr < ((rd_T126 rules rule).f1.length : Int) - dot ↔ sp < lf := by omega
      have b3 : fr = en ↔ sp = 0 := by omega
      simp only [b1, b2, b3] at h
      have w1e : wrap64 (((rd_T126 rules rule).f1.length : Int) - dot) = lf := by unfold wrap64; omega
      have w2e : wrap64 (en - fr) = sp := by unfold wrap64; omega
      have B := Aside0.mk (And.intro p1 (And.intro p2 (And.intro p3 (And.intro p4 (And.intro p5 (And.intro p6 (And.intro p7 (And.intro p8 (And.intro p9 (And.intro p10 (And.intro hlf hsp)))))))))))
      have p1t := eq_true p1
      have p2t := eq_true p2
      by_cases c : sp < lf ∨ lf = 0
      · rw [if_pos c] at h
        injection h with h
        by_cases c0 : lf = 0
        · by_cases c3 : fr = en
          · have hr : r = 1 := by rw [← h, if_pos ⟨c0, b3.1 c3⟩]
            subst hr
            have k1 : decide (sp < lf) = false := decide_eq_false (by omega)
            have k2 : (lf == 0) = true := by rw [beq_iff_eq]; exact c0
            have k3 : (fr == en) = true := by rw [beq_iff_eq]; exact c3
            clear h c c0 b1 b2 b3 p1 p2 p3 p4 p5 p6 p7 p8 p9 p10 hlf hsp h0 c3
            go_enter Try.func78, Try.ntmps78
            go_wp2
            go_ret
            exact ⟨rfl, ST.out, World.grownBy.refl _ _⟩
          · have hr : r = 0 := by rw [← h, if_neg (fun e => c3 (b3.2 e.2))]
            subst hr
            have k1 : decide (sp < lf) = false := decide_eq_false (by omega)
            have k2 : (lf == 0) = true := by rw [beq_iff_eq]; exact c0
            have k3 : (fr == en) = false := by rw [beq_eq_false_iff_ne]; exact c3
            clear h c c0 b1 b2 b3 p1 p2 p3 p4 p5 p6 p7 p8 p9 p10 hlf hsp h0 c3
            go_enter Try.func78, Try.ntmps78
            go_wp2
            go_ret
            exact ⟨rfl, ST.out, World.grownBy.refl _ _⟩
        · have hr : r = 0 := by rw [← h, if_neg (fun e => c0 e.1)]
          subst hr
          have k1 : decide (sp < lf) = true := decide_eq_true (by omega)
          have k2 : (lf == 0) = false := by rw [beq_eq_false_iff_ne]; exact c0
          clear h c c0 b1 b2 b3 p1 p2 p3 p4 p5 p6 p7 p8 p9 p10 hlf hsp h0
          go_enter Try.func78, Try.ntmps78
          go_wp2
          go_ret
          exact ⟨rfl, ST.out, World.grownBy.refl _ _⟩
      · rw [if_neg c] at h
        have k1 : decide (sp < lf) = false := decide_eq_false (by omega)
        have k2 : (lf == 0) = false := by rw [beq_eq_false_iff_ne]; omega
        obtain ⟨r0, hL, h⟩ := Option.bind_eq_some_iff.mp h
        have HL := Aside0.mk hL
        have hwf1 := tC.wf (a := rule) (by omega) (by omega)
        have hwf2 := tC.wf (a := dot) (by omega) (by omega)
        have hwf3 := tC.wf (a := fr) (by omega) (by omega)
        have hwf4 := tC.wf (a := en) (by omega) (by omega)
        have hin : 0 ≤ rule ∧ rule < 16 ∧ 0 ≤ dot ∧ dot < 16 ∧ 0 ≤ fr ∧ fr < 16 ∧ 0 ≤ en ∧ en < 16 := by omega
        have hkey := tC.key hwf1 hwf2 hwf3 hwf4
        have hgood : 0 ≤ r0 ∧ r0 ≤ 1099511627777 ∧ r0 = r := by
          split at h
          · injection h with h; omega
          · cases h
        obtain ⟨hr0, hr1, rfl⟩ := hgood
        have RB := Aside0.mk (And.intro hr0 hr1)
        have C := Aside0.mk c
        clear hL h c b1 b2 b3 p1 p2 p3 p4 p5 p6 p7 p8 p9 p10 hlf hsp hr0 hr1
        obtain ⟨D, hown, hgd⟩ := ST.out.own
        obtain ⟨v, b, hv, hb, hlk⟩ : ∃ (v : Int) (b : Bool), (b = true → v = r0) ∧ Go.Maps.has D (tC.kl rule dot fr en) = b ∧ ∀ (o : Obj) (n : Nat), (Instr.lookup 171 (.map (some mb)) (.agg #[.int .i64 rule, .int .i64 dot, .int .i64 fr, .int .i64 en]) true).run Try.prog ((w.alloc o).drewN n) = .ok (.tuple #[.int .i64 v, .bool b]) ((w.alloc o).drewN n) := by
          obtain ⟨v, hat, hvv⟩ : ∃ v : Int, D.atKey (tC.kl rule dot fr en) (.lit (.int .i64 0)) = .lit (.int .i64 v) ∧ (Go.Maps.has D (tC.kl rule dot fr en) = true → v = r0) := by
            by_cases hh : Go.Maps.has D (tC.kl rule dot fr en) = true
            · obtain ⟨a', b', c', d', v, hr, hk, ⟨q0, hq0⟩, hat⟩ := hgd.g _ hh
              have := tC.inj hwf1 hwf2 hwf3 hwf4 (tC.wf (by omega) (by omega)) (tC.wf (by omega) (by omega)) (tC.wf (by omega) (by omega)) (tC.wf (by omega) (by omega)) hk
              obtain ⟨rfl, rfl, rfl, rfl⟩ := this
              exact ⟨v, hat _, fun _ => table_Count.rest_one hq0 h0.out⟩
            · exact ⟨0, tC.at_none (by simpa using hh), fun h => absurd h hh⟩
          refine ⟨v, _, hvv, rfl, fun o n => ?_⟩
          have ho : ((w.alloc o).drewN n).ownsMap Try.prog 179 (plainElem Try.prog 2) mb 65536 D := hown.alloc o
          obtain ⟨v2, ps, hrun, hR⟩ := ho.look_ok tC.law tC.und (tC.zero _) (zd := .lit (.int .i64 0)) (zp := []) (plainElem_int Try.underlying2 (by decide)) hkey
          rw [hat] at hR
          obtain ⟨a9, rfl, hz, _⟩ := plainElem_int_inv Try.underlying2 hR
          injection hz with hz _
          injection hz with hz
          injection hz with _ hz
          subst hz
          exact hrun
        clear hwf1 hwf2 hwf3 hwf4
        by_cases hbt : b = true
        · subst hbt
          obtain rfl := hv rfl
          clear hv hb hgd hown hkey hin
          try clear h
          go_enter Try.func78, Try.ntmps78
          go_wp2
          have hc5a := fun o => Lib.cell?_alloc_some o hc5
          clear hc5 hc3 hy1
          go_quiet (fail)
          go_wp2
          go_ret
          exact ⟨rfl, ST.out.kept (tC.grown_drew (World.grownBy_alloc _ _ none) _), (tC.grown_drew (World.grownBy_alloc _ _ _) _)⟩
        · obtain rfl : b = false := by simpa using hbt
          have HIN := Aside0.mk hin
          have HKEY := Aside0.mk hkey
          clear hv hb hgd hown hbt hin hkey
          clear k2
          rcases (show lf = 1 ∨ ¬ lf = 1 by omega) with l1 | l1
          · subst l1
            obtain ⟨q1, q2, q3, q4, q5, q6, q7, q8, q9, q10, q11, q12⟩ := B.out
            obtain ⟨e0, he0⟩ : ∃ e0 : Int, e0 = en - 1 := ⟨_, rfl⟩
            obtain ⟨e1, he1⟩ : ∃ e1 : Int, e1 = e0 + 1 := ⟨_, rfl⟩
            have w3e : wrap64 (en - 1) = e0 := by unfold wrap64; omega
            have w4e : wrap64 (e0 + 1) = e1 := by unfold wrap64; omega
            have w5e : wrap64 (fr + 1) = fr + 1 := by unfold wrap64; omega
            have w6e : wrap64 (dot + 1) = dot + 1 := by unfold wrap64; omega
            have q13 : dot < ((rd_T126 rules rule).f1.length : Int) := by have := C.out; omega
            have q14 : e1 ≤ 13 := by have := C.out; omega
            obtain ⟨ad1, rfl, hz0⟩ := Kd.at_int HI.out dot q4 q13
            have E := Aside0.mk (And.intro he0 (And.intro he1 q14))
            have HZ := Aside0.mk hz0
            have q78 := Aside0.mk (And.intro q7 (And.intro q8 q9))
            have q10' := Aside0.mk q10
            have WE := Aside0.mk (And.intro w3e (And.intro w4e (And.intro w5e w6e)))
            clear hz0 he0 he1 q1 q2 q3 q4 q5 q6 q7 q8 q9 q10 q11 q12 q13 q14 w3e w4e w5e w6e
            try clear h
            go_enter Try.func78, Try.ntmps78
            go_wp2
            have hc5a := fun o => Lib.cell?_alloc_some o hc5
            clear hc5 hc3 hy1
            go_quiet (fail)
            have STa := Aside0.mk (ST.out.kept (tC.grown_drew (World.grownBy_alloc w (Obj.cells #[.int .i64 rule, .int .i64 dot, .int .i64 fr, .int .i64 en] 179) none) nq))
            have BXa := Aside0.mk (show ((w.alloc (Obj.cells #[.int .i64 rule, .int .i64 dot, .int .i64 fr, .int .i64 en] 179)).drewN nq).heap[w.heap.size]? = _ from blk_drewN (heap_alloc_new w _) nq)
            have GWa := Aside0.mk (tC.grown_drew (World.grownBy_alloc w (Obj.cells #[.int .i64 rule, .int .i64 dot, .int .i64 fr, .int .i64 en] 179) (some mb)) nq)
            clear hlk hc5a ST
            generalize (w.alloc (Obj.cells #[.int .i64 rule, .int .i64 dot, .int .i64 fr, .int .i64 en] 179)).drewN nq = wa at *
            generalize hbx : w.heap.size = bx at *
            have HBX := Aside0.mk hbx
            clear hbx
            obtain ⟨w3e, w4e, w5e, w6e⟩ := WE.out
            try simp only [w1e, w2e]
            clear w1e w2e k1 p1t p2t w3e w4e w6e
            go_wp2
            try simp only [w5e]
            go_loopg [16, 17] 30 (fun gg v16 v17 wr => ∃ (mid sum : Int) (q' : Nat), q' ≤ q ∧ fr < mid ∧ mid ≤ 15 ∧ (20 - mid).toNat ≤ gg ∧ v16 = .int .i64 sum ∧ v17 = .int .i64 mid ∧ Aside0 (table_Count.restL q' K rules ws rule dot fr en mid sum = some r0) ∧ Aside0 (tC.St w0 gb mb K N S0 (some ad) AW cR cW rules ws wr) ∧ Aside0 (w.grownBy wr (some mb)) ∧ Aside0 (wr.heap[bx]? = some (.cells #[.int .i64 rule, .int .i64 dot, .int .i64 fr, .int .i64 en] 179 (0, 0))))
            case atStart => exact ⟨fr + 1, 0, q, Nat.le_refl _, by omega, by have := q78.out; have := q10'.out; omega, by have := q78.out; omega, rfl, by first | rfl | rw [w5e], ⟨HL.out⟩, ⟨STa.out⟩, ⟨GWa.out⟩, ⟨BXa.out⟩⟩
            case round =>
              clear w5e STa GWa BXa HL
              obtain ⟨mid, sum, q', hq, hm0, hm1, hgg, rfl, rfl, H, ST, GW, BX⟩ := hrel
              obtain ⟨w3e, w4e, _, w6e⟩ := WE.out
              cases q' with
              | zero => have h := H.out; rw [table_Count.restL] at h; cases h
              | succ q1 =>
                have h := H.out
                rw [table_Count.restL] at h
                have x1 : mid ≤ en - (((rd_T126 rules rule).f1.length : Int) - dot) + 1 ↔ mid ≤ e1 := by have := B.out; have := E.out; omega
                have x2 : (((rd_T126 rules rule).f1.length : Int) - dot = 1) = True := eq_true (by have := B.out; omega)
                have m1 : q1 < q + 1 := by omega
                have m2 : q1 ≤ q := by omega
                have w7e : wrap64 (mid + 1) = mid + 1 := by have := q78.out; unfold wrap64; omega
                simp only [x1, x2, true_and] at h
                by_cases c6 : mid ≤ e1
                · have m3 : fr < mid + 1 := by omega
                  have m4 : mid + 1 ≤ 15 := by have := E.out; omega
                  have m5 : (20 - (mid + 1)).toNat < gk := by have := E.out; omega
                  have M := Aside0.mk (And.intro m1 (And.intro m2 (And.intro m3 (And.intro m4 m5))))
                  rw [if_pos c6] at h
                  have c6b : decide (mid ≤ e1) = true := decide_eq_true c6
                  clear x1 x2 m1 m2 m3 m4 m5 hq hm0 hm1 hgg H
                  by_cases c7 : mid < en
                  · rw [if_pos c7] at h
                    have H := Aside0.mk h
                    have c7b : decide (mid < en) = true := decide_eq_true c7
                    clear h c7 c6
                    go_wp2
                    go_roundg (20 - (mid + 1)).toNat
                    case measure => exact M.out.2.2.2.2
                    case rel => exact ⟨mid + 1, sum, q1, M.out.2.1, M.out.2.2.1, M.out.2.2.2.1, Nat.le_refl _, rfl, by first | rfl | rw [w7e], H, ST, GW, BX⟩
                  · rw [if_neg c7] at h
                    have c7b : decide (mid < en) = false := decide_eq_false c7
                    clear c7
                    obtain ⟨n, hn, h⟩ := Option.bind_eq_some_iff.mp h
                    have HN := Aside0.mk hn
                    have HT := Aside0.mk h
                    clear hn h c6
                    have bound : n ≤ 0 ∨ 0 < n := by omega
                    rcases bound with c8 | c8
                    · have hh := HT.out
                      rw [if_neg (by omega)] at hh
                      have H := Aside0.mk hh
                      have c8b : decide (0 < n) = false := decide_eq_false (by omega)
                      clear hh c8 HT
                      go_wp2_with (go_at_call 78; refine ((IHr.out q1 M.out.1) rule (dot + 1) mid en n _ HN.out ST.out).mono ?_; rintro e w2 ⟨rfl, ST2', GW2'⟩; have ST2 := Aside0.mk ST2'; have GW2 := Aside0.mk (GW.out.trans GW2'); have BX2 := Aside0.mk (tC.blk_map BX.out ST.out GW2'); clear ST2' GW2')
                      go_roundg (20 - (mid + 1)).toNat
                      case measure => exact M.out.2.2.2.2
                      case rel => exact ⟨mid + 1, _, q1, M.out.2.1, M.out.2.2.1, M.out.2.2.2.1, Nat.le_refl _, rfl, by first | rfl | rw [w7e], H, ST2, GW2, BX2⟩
                    · have hh := HT.out
                      rw [if_pos (by omega)] at hh
                      obtain ⟨s, hs, hh⟩ := Option.bind_eq_some_iff.mp hh
                      obtain ⟨tt, ht, hh⟩ := Option.bind_eq_some_iff.mp hh
                      have c8b : decide (0 < n) = true := decide_eq_true (by omega)
                      have HS := Aside0.mk hs
                      have HTT := Aside0.mk ht
                      obtain ⟨y, hy⟩ : ∃ y, wrap64 (sum + tt) = y := ⟨_, rfl⟩
                      rw [hy] at hh
                      have hmin : (1099511627777 < y ∧ mn y 1099511627777 = 1099511627777) ∨ (¬ 1099511627777 < y ∧ mn y 1099511627777 = y) := by
                        unfold mn
                        by_cases z : (1099511627777 : Int) < y
                        · exact Or.inl ⟨z, if_pos z⟩
                        · exact Or.inr ⟨z, if_neg z⟩
                      obtain ⟨q4t, q13t⟩ : (0 ≤ dot) = True ∧ (dot < ((rd_T126 rules rule).f1.length : Int)) = True := by
                        have := B.out
                        have := C.out
                        have a1 : 0 ≤ dot := by omega
                        have a2 : dot < ((rd_T126 rules rule).f1.length : Int) := by omega
                        exact ⟨eq_true a1, eq_true a2⟩
                      clear hs ht c8 HT
                      rcases hmin with ⟨z, hz⟩ | ⟨z, hz⟩
                      all_goals
                        rw [hz] at hh
                        have H := Aside0.mk hh
                        clear hh hz
                        first | have zz : decide ((1099511627777 : Int) < y) = true := decide_eq_true z | have zz : decide ((1099511627777 : Int) < y) = false := decide_eq_false z
                        go_wp2_with (first
                          | (go_at_call 78; refine ((IHr.out q1 M.out.1) rule (dot + 1) mid en n _ HN.out ST.out).mono ?_; rintro e w2 ⟨rfl, ST2', GW2'⟩; have ST2 := Aside0.mk ST2'; have GW2 := Aside0.mk (GW.out.trans GW2'); have BX2 := Aside0.mk (tC.blk_map BX.out ST.out GW2'); have hzc := pw_cell_below ST2'.below HZ.out; clear ST2' GW2')
                          | (go_at_call 74; refine ((IHs.out q1 M.out.1) (rd (rd_T126 rules rule).f1 dot) fr mid s _ HS.out ST2.out).mono ?_; rintro e w3 ⟨rfl, ST3', GW3'⟩; have ST3 := Aside0.mk ST3'; have GW3 := Aside0.mk (GW2.out.trans GW3'); have BX3 := Aside0.mk (tC.blk_map BX2.out ST2.out GW3'); clear ST3' GW3' hzc)
                          | (go_at_call 115; refine (table_times.calls s n tt _ HTT.out).mono ?_; rintro e w4 ⟨rfl, hd4⟩; have ST4 := Aside0.mk (ST3.out.kept (tC.grown_drawn hd4)); have GW4 := Aside0.mk (GW3.out.trans ((tC.grown_drawn hd4).but _)); have BX4 := Aside0.mk (blk_grown BX3.out (tC.grown_drawn hd4) (by simp)); clear hd4))
                        go_roundg (20 - (mid + 1)).toNat
                        case measure => exact M.out.2.2.2.2
                        case rel => exact ⟨mid + 1, _, q1, M.out.2.1, M.out.2.2.1, M.out.2.2.2.1, Nat.le_refl _, rfl, by first | rfl | rw [w7e], H, ST4, GW4, BX4⟩
                · rw [if_neg c6] at h
                  injection h with h
                  have c6b : decide (mid ≤ e1) = false := decide_eq_false c6
                  clear x1 x2 m1 m2 hq hm0 hm1 hgg H c6
                  subst h
                  clear w6e w7e
                  have hc5 : wr.cell? ⟨gb, 5, none⟩ = some (.map (some mb)) := (blk_cell ST.out.blk 5).trans rfl
                  have hk0 : wr.cell? ⟨bx, 0, none⟩ = some (.int .i64 rule) := (blk_cell BX.out 0).trans rfl
                  have hk1 : wr.cell? ⟨bx, 1, none⟩ = some (.int .i64 dot) := (blk_cell BX.out 1).trans rfl
                  have hk2 : wr.cell? ⟨bx, 2, none⟩ = some (.int .i64 fr) := (blk_cell BX.out 2).trans rfl
                  have hk3 : wr.cell? ⟨bx, 3, none⟩ = some (.int .i64 en) := (blk_cell BX.out 3).trans rfl
                  obtain ⟨D2, hown2, hgd2⟩ := ST.out.own
                  have hwf := tC.wf (a := sum) (by have := RB.out; omega) (by have := RB.out; omega)
                  obtain ⟨w9, hrun, hW1, hW2⟩ := (show wr.drew.ownsMap Try.prog 179 (plainElem Try.prog 2) mb 65536 D2 from hown2).update tC.law tC.und (by unfold maxLen; omega) HKEY.out (plainElem_int Try.underlying2 hwf)
                  have hW3 : wr.grownBy w9 (some mb) := tC.grown_drewl (n := 1) hW2
                  have FIN := Aside0.mk (And.intro (show tC.St w0 gb mb K N S0 (some ad) AW cR cW rules ws w9 from ⟨Below.grown ST.out.below hW3 (below_size ST.out.below) (fun k e => by injection e with e; omega), blk_grown ST.out.blk hW3 (by intro e; injection e with e; exact ST.out.apart ST.out.blk e), tC.own_put hgd2 HIN.out ⟨_, h0.out⟩ hW1⟩) (GW.out.trans hW3))
                  have hrun' : (Instr.mapUpdate 171 (.map (some mb)) (.agg #[.int .i64 rule, .int .i64 dot, .int .i64 fr, .int .i64 en]) (.int .i64 sum)).run Try.prog wr.drew = .ok () w9 := hrun
                  clear hW1 hW2 hW3 hwf hgd2 hown2 g1 g2 hrun
                  go_wp2
                  go_region
                  all_goals
                    go_wp2
                    go_ret
                    exact ⟨rfl, FIN.out.1, FIN.out.2⟩
          · have L1 := Aside0.mk l1
            clear l1
            have k2 : (lf == 0) = false := by rw [beq_eq_false_iff_ne]; have := C.out; omega
            obtain ⟨q1, q2, q3, q4, q5, q6, q7, q8, q9, q10, q11, q12⟩ := B.out
            obtain ⟨e0, he0⟩ : ∃ e0 : Int, e0 = en - lf := ⟨_, rfl⟩
            obtain ⟨e1, he1⟩ : ∃ e1 : Int, e1 = e0 + 1 := ⟨_, rfl⟩
            have w3e : wrap64 (en - lf) = e0 := by unfold wrap64; omega
            have w4e : wrap64 (e0 + 1) = e1 := by unfold wrap64; omega
            have w5e : wrap64 (fr + 1) = fr + 1 := by unfold wrap64; omega
            have w6e : wrap64 (dot + 1) = dot + 1 := by unfold wrap64; omega
            have q13 : dot < ((rd_T126 rules rule).f1.length : Int) := by have := C.out; omega
            have q14 : e1 ≤ 13 := by have := C.out; omega
            obtain ⟨ad1, rfl, hz0⟩ := Kd.at_int HI.out dot q4 q13
            have E := Aside0.mk (And.intro he0 (And.intro he1 q14))
            have HZ := Aside0.mk hz0
            have q78 := Aside0.mk (And.intro q7 (And.intro q8 q9))
            have q10' := Aside0.mk q10
            have WE := Aside0.mk (And.intro w3e (And.intro w4e (And.intro w5e w6e)))
            clear hz0 he0 he1 q1 q2 q3 q4 q5 q6 q7 q8 q9 q10 q11 q12 q13 q14 w3e w4e w5e w6e
            try clear h
            go_enter Try.func78, Try.ntmps78
            go_wp2
            have hc5a := fun o => Lib.cell?_alloc_some o hc5
            clear hc5 hc3 hy1
            go_quiet (fail)
            have STa := Aside0.mk (ST.out.kept (tC.grown_drew (World.grownBy_alloc w (Obj.cells #[.int .i64 rule, .int .i64 dot, .int .i64 fr, .int .i64 en] 179) none) nq))
            have BXa := Aside0.mk (show ((w.alloc (Obj.cells #[.int .i64 rule, .int .i64 dot, .int .i64 fr, .int .i64 en] 179)).drewN nq).heap[w.heap.size]? = _ from blk_drewN (heap_alloc_new w _) nq)
            have GWa := Aside0.mk (tC.grown_drew (World.grownBy_alloc w (Obj.cells #[.int .i64 rule, .int .i64 dot, .int .i64 fr, .int .i64 en] 179) (some mb)) nq)
            clear hlk hc5a ST
            generalize (w.alloc (Obj.cells #[.int .i64 rule, .int .i64 dot, .int .i64 fr, .int .i64 en] 179)).drewN nq = wa at *
            generalize hbx : w.heap.size = bx at *
            have HBX := Aside0.mk hbx
            clear hbx
            obtain ⟨w3e, w4e, w5e, w6e⟩ := WE.out
            try simp only [w1e, w2e]
            clear w1e w2e k1 p1t p2t w3e w4e w6e
            go_wp2
            try simp only [w5e]
            go_loopg [16, 17] 30 (fun gg v16 v17 wr => ∃ (mid sum : Int) (q' : Nat), q' ≤ q ∧ fr < mid ∧ mid ≤ 15 ∧ (20 - mid).toNat ≤ gg ∧ v16 = .int .i64 sum ∧ v17 = .int .i64 mid ∧ Aside0 (table_Count.restL q' K rules ws rule dot fr en mid sum = some r0) ∧ Aside0 (tC.St w0 gb mb K N S0 (some ad) AW cR cW rules ws wr) ∧ Aside0 (w.grownBy wr (some mb)) ∧ Aside0 (wr.heap[bx]? = some (.cells #[.int .i64 rule, .int .i64 dot, .int .i64 fr, .int .i64 en] 179 (0, 0))))
            case atStart => exact ⟨fr + 1, 0, q, Nat.le_refl _, by omega, by have := q78.out; have := q10'.out; omega, by have := q78.out; omega, rfl, by first | rfl | rw [w5e], ⟨HL.out⟩, ⟨STa.out⟩, ⟨GWa.out⟩, ⟨BXa.out⟩⟩
            case round =>
              clear w5e STa GWa BXa HL
              obtain ⟨mid, sum, q', hq, hm0, hm1, hgg, rfl, rfl, H, ST, GW, BX⟩ := hrel
              obtain ⟨w3e, w4e, _, w6e⟩ := WE.out
              cases q' with
              | zero => have h := H.out; rw [table_Count.restL] at h; cases h
              | succ q1 =>
                have h := H.out
                rw [table_Count.restL] at h
                have x1 : mid ≤ en - (((rd_T126 rules rule).f1.length : Int) - dot) + 1 ↔ mid ≤ e1 := by have := B.out; have := E.out; omega
                have x2 : (((rd_T126 rules rule).f1.length : Int) - dot = 1) = False := eq_false (by have := B.out; have := L1.out; omega)
                have m1 : q1 < q + 1 := by omega
                have m2 : q1 ≤ q := by omega
                have w7e : wrap64 (mid + 1) = mid + 1 := by have := q78.out; unfold wrap64; omega
                simp only [x1, x2, false_and, if_false] at h
                by_cases c6 : mid ≤ e1
                · have m3 : fr < mid + 1 := by omega
                  have m4 : mid + 1 ≤ 15 := by have := E.out; omega
                  have m5 : (20 - (mid + 1)).toNat < gk := by have := E.out; omega
                  have M := Aside0.mk (And.intro m1 (And.intro m2 (And.intro m3 (And.intro m4 m5))))
                  rw [if_pos c6] at h
                  have c6b : decide (mid ≤ e1) = true := decide_eq_true c6
                  clear x1 x2 m1 m2 m3 m4 m5 hq hm0 hm1 hgg H
                  have l1b : (lf == 1) = false := by rw [beq_eq_false_iff_ne]; exact L1.out

                  obtain ⟨n, hn, h⟩ := Option.bind_eq_some_iff.mp h
                  have HN := Aside0.mk hn
                  have HT := Aside0.mk h
                  clear hn h c6
                  have bound : n ≤ 0 ∨ 0 < n := by omega
                  rcases bound with c8 | c8
                  · have hh := HT.out
                    rw [if_neg (by omega)] at hh
                    have H := Aside0.mk hh
                    have c8b : decide (0 < n) = false := decide_eq_false (by omega)
                    clear hh c8 HT
                    go_wp2_with (go_at_call 78; refine ((IHr.out q1 M.out.1) rule (dot + 1) mid en n _ HN.out ST.out).mono ?_; rintro e w2 ⟨rfl, ST2', GW2'⟩; have ST2 := Aside0.mk ST2'; have GW2 := Aside0.mk (GW.out.trans GW2'); have BX2 := Aside0.mk (tC.blk_map BX.out ST.out GW2'); clear ST2' GW2')
                    go_roundg (20 - (mid + 1)).toNat
                    case measure => exact M.out.2.2.2.2
                    case rel => exact ⟨mid + 1, _, q1, M.out.2.1, M.out.2.2.1, M.out.2.2.2.1, Nat.le_refl _, rfl, by first | rfl | rw [w7e], H, ST2, GW2, BX2⟩
                  · have hh := HT.out
                    rw [if_pos (by omega)] at hh
                    obtain ⟨s, hs, hh⟩ := Option.bind_eq_some_iff.mp hh
                    obtain ⟨tt, ht, hh⟩ := Option.bind_eq_some_iff.mp hh
                    have c8b : decide (0 < n) = true := decide_eq_true (by omega)
                    have HS := Aside0.mk hs
                    have HTT := Aside0.mk ht
                    obtain ⟨y, hy⟩ : ∃ y, wrap64 (sum + tt) = y := ⟨_, rfl⟩
                    rw [hy] at hh
                    have hmin : (1099511627777 < y ∧ mn y 1099511627777 = 1099511627777) ∨ (¬ 1099511627777 < y ∧ mn y 1099511627777 = y) := by
                      unfold mn
                      by_cases z : (1099511627777 : Int) < y
                      · exact Or.inl ⟨z, if_pos z⟩
                      · exact Or.inr ⟨z, if_neg z⟩
                    obtain ⟨q4t, q13t⟩ : (0 ≤ dot) = True ∧ (dot < ((rd_T126 rules rule).f1.length : Int)) = True := by
                      have := B.out
                      have := C.out
                      have a1 : 0 ≤ dot := by omega
                      have a2 : dot < ((rd_T126 rules rule).f1.length : Int) := by omega
                      exact ⟨eq_true a1, eq_true a2⟩
                    clear hs ht c8 HT
                    rcases hmin with ⟨z, hz⟩ | ⟨z, hz⟩
                    all_goals
                      rw [hz] at hh
                      have H := Aside0.mk hh
                      clear hh hz
                      first | have zz : decide ((1099511627777 : Int) < y) = true := decide_eq_true z | have zz : decide ((1099511627777 : Int) < y) = false := decide_eq_false z
                      go_wp2_with (first
                        | (go_at_call 78; refine ((IHr.out q1 M.out.1) rule (dot + 1) mid en n _ HN.out ST.out).mono ?_; rintro e w2 ⟨rfl, ST2', GW2'⟩; have ST2 := Aside0.mk ST2'; have GW2 := Aside0.mk (GW.out.trans GW2'); have BX2 := Aside0.mk (tC.blk_map BX.out ST.out GW2'); have hzc := pw_cell_below ST2'.below HZ.out; clear ST2' GW2')
                        | (go_at_call 74; refine ((IHs.out q1 M.out.1) (rd (rd_T126 rules rule).f1 dot) fr mid s _ HS.out ST2.out).mono ?_; rintro e w3 ⟨rfl, ST3', GW3'⟩; have ST3 := Aside0.mk ST3'; have GW3 := Aside0.mk (GW2.out.trans GW3'); have BX3 := Aside0.mk (tC.blk_map BX2.out ST2.out GW3'); clear ST3' GW3' hzc)
                        | (go_at_call 115; refine (table_times.calls s n tt _ HTT.out).mono ?_; rintro e w4 ⟨rfl, hd4⟩; have ST4 := Aside0.mk (ST3.out.kept (tC.grown_drawn hd4)); have GW4 := Aside0.mk (GW3.out.trans ((tC.grown_drawn hd4).but _)); have BX4 := Aside0.mk (blk_grown BX3.out (tC.grown_drawn hd4) (by simp)); clear hd4))
                      go_roundg (20 - (mid + 1)).toNat
                      case measure => exact M.out.2.2.2.2
                      case rel => exact ⟨mid + 1, _, q1, M.out.2.1, M.out.2.2.1, M.out.2.2.2.1, Nat.le_refl _, rfl, by first | rfl | rw [w7e], H, ST4, GW4, BX4⟩
                · rw [if_neg c6] at h
                  injection h with h
                  have c6b : decide (mid ≤ e1) = false := decide_eq_false c6
                  clear x1 x2 m1 m2 hq hm0 hm1 hgg H c6
                  subst h
                  clear w6e w7e
                  have hc5 : wr.cell? ⟨gb, 5, none⟩ = some (.map (some mb)) := (blk_cell ST.out.blk 5).trans rfl
                  have hk0 : wr.cell? ⟨bx, 0, none⟩ = some (.int .i64 rule) := (blk_cell BX.out 0).trans rfl
                  have hk1 : wr.cell? ⟨bx, 1, none⟩ = some (.int .i64 dot) := (blk_cell BX.out 1).trans rfl
                  have hk2 : wr.cell? ⟨bx, 2, none⟩ = some (.int .i64 fr) := (blk_cell BX.out 2).trans rfl
                  have hk3 : wr.cell? ⟨bx, 3, none⟩ = some (.int .i64 en) := (blk_cell BX.out 3).trans rfl
                  obtain ⟨D2, hown2, hgd2⟩ := ST.out.own
                  have hwf := tC.wf (a := sum) (by have := RB.out; omega) (by have := RB.out; omega)
                  obtain ⟨w9, hrun, hW1, hW2⟩ := (show wr.drew.ownsMap Try.prog 179 (plainElem Try.prog 2) mb 65536 D2 from hown2).update tC.law tC.und (by unfold maxLen; omega) HKEY.out (plainElem_int Try.underlying2 hwf)
                  have hW3 : wr.grownBy w9 (some mb) := tC.grown_drewl (n := 1) hW2
                  have FIN := Aside0.mk (And.intro (show tC.St w0 gb mb K N S0 (some ad) AW cR cW rules ws w9 from ⟨Below.grown ST.out.below hW3 (below_size ST.out.below) (fun k e => by injection e with e; omega), blk_grown ST.out.blk hW3 (by intro e; injection e with e; exact ST.out.apart ST.out.blk e), tC.own_put hgd2 HIN.out ⟨_, h0.out⟩ hW1⟩) (GW.out.trans hW3))
                  have hrun' : (Instr.mapUpdate 171 (.map (some mb)) (.agg #[.int .i64 rule, .int .i64 dot, .int .i64 fr, .int .i64 en]) (.int .i64 sum)).run Try.prog wr.drew = .ok () w9 := hrun
                  clear hW1 hW2 hW3 hwf hgd2 hown2 g1 g2 hrun
                  go_wp2
                  go_region
                  all_goals
                    go_wp2
                    go_ret
                    exact ⟨rfl, FIN.out.1, FIN.out.2⟩
    · rw [if_neg hg] at h; cases h
theorem tC.both {w0 : World} {gb mb : Nat} {K N S0 : Int} {A AW : Option Addr} {cR cW : Nat} {rules : List S126} {ws : List Int} (HR0 : Kd.C k126 w0 A rules.length rules) (HW0 : Kd.C (Kd.int .i64) w0 AW ws.length ws) (g1 : w0.heap.size ≤ gb) (g2 : w0.heap.size ≤ mb) (q : Nat) : tC.RestSpec w0 gb mb K N S0 A AW cR cW rules ws q ∧ tC.SignSpec w0 gb mb K N S0 A AW cR cW rules ws q := by
  induction q using Nat.strongRecOn with
  | ind q ih => exact ⟨tC.rest_step HR0 g1 g2 q (fun q' h => (ih q' h).1) (fun q' h => (ih q' h).2), tC.sign_step HR0 HW0 g1 g2 q (fun q' h => (ih q' h).1)⟩
def tC.NewPost (K N S0 : Int) (A AW : Option Addr) (cR cW : Nat) (rules : List S126) (ws : List Int) (w : World) (e : Ending) (w' : World) : Prop :=
  ∃ gb mb, e = .returned (.pointer (some ⟨gb, 0, none⟩)) ∧ w.heap.size ≤ gb ∧ w.heap.size ≤ mb ∧ tC.St w gb mb K N S0 A AW cR cW rules ws w' ∧ w.grownBy w' none
set_option maxHeartbeats 8000000 in
set_option maxRecDepth 100000 in
theorem tC.new {K N S0 : Int} {A AW : Option Addr} {cR cW : Nat} {rules : List S126} {ws : List Int} (w : World) :
    Calls Try.prog 73 #[.agg #[.int .i64 K, .int .i64 N, .int .i64 S0, .slice A rules.length cR], .slice AW ws.length cW] w (tC.NewPost K N S0 A AW cR cW rules ws w) := by
  have hmm := @run_makeMap Try.prog
  go_enter Try.func73, Try.ntmps73
  go_wp2
  go_ret
  refine ⟨w.heap.size + 2, w.heap.size + 1, ?_, by omega, by omega, ⟨?_, ?_, ?_⟩, ?_⟩
  · simp
  · exact below_alloc (below_alloc (below_alloc (Below.refl _ _) _) _) _
  · rw [show w.heap.size + 2 = ((w.alloc (Obj.cells #[.int .i64 K, .int .i64 N, .int .i64 S0, .slice A rules.length cR] 51)).alloc (.map #[] 0)).heap.size by simp]
    exact blk_new _ _
  · refine tC.own_kept (row := none) (w := (w.alloc (Obj.cells #[.int .i64 K, .int .i64 N, .int .i64 S0, .slice A rules.length cR] 51)).alloc (.map #[] 0)) ⟨.map [], ?_, tC.good_nil _⟩ (World.grownBy_alloc _ _ _) (by simp)
    have := World.ownsMap_made (H := Unit) (w.alloc (Obj.cells #[.int .i64 K, .int .i64 N, .int .i64 S0, .slice A rules.length cR] 51)) Try.prog 179 (plainElem Try.prog 2)
    rw [show (w.alloc (Obj.cells #[.int .i64 K, .int .i64 N, .int .i64 S0, .slice A rules.length cR] 51)).heap.size = w.heap.size + 1 by simp] at this
    exact this.mono (by omega)
  · exact (World.grownBy_alloc _ _ _).trans ((World.grownBy_alloc _ _ _).trans (World.grownBy_alloc _ _ _))
theorem tC.ne_map {bx mb : Nat} {w : World} (h : bx < w.heap.size) (h2 : w.heap.size ≤ mb) {o : Nat} {z : Option Nat} : some (⟨bx, o, z⟩ : Addr).block ≠ some mb := by
  intro e
  injection e with e
  simp at e
  omega
mutual
def plain_Steps.lay : Nat → Int → List S126 → List Int → Int → Int → Int → List Int → Option (List Int)
  | 0, _, _, _, _, _, _, _ => none
  | q + 1, K, rules, ws, name, fr, en, acc => if rules.length ≤ 10 then plain_Steps.layL q K rules ws name fr en 0 acc else none
def plain_Steps.layL : Nat → Int → List S126 → List Int → Int → Int → Int → Int → List Int → Option (List Int)
  | 0, _, _, _, _, _, _, _, _ => none
  | q + 1, K, rules, ws, name, fr, en, i, acc =>
    if i < (rules.length : Int) then
      (if (rd_T126 rules i).f0 = name then
        (table_Count.rest q K rules ws i 0 fr en).bind fun n => if n = 0 then plain_Steps.layL q K rules ws name fr en (i + 1) acc else
          if acc.length < 1000 then
            (if (rd_T126 rules i).f1.length = 2 then
              (plain_Steps.mid q K rules ws (rd (rd_T126 rules i).f1 0) (rd (rd_T126 rules i).f1 1) fr en (fr + 1)).bind fun m =>
                (plain_Steps.lay q K rules ws (wrap64 (rd (rd_T126 rules i).f1 0 - K)) fr m (acc ++ [i])).bind fun a => plain_Steps.lay q K rules ws (wrap64 (rd (rd_T126 rules i).f1 1 - K)) m en a
            else some (acc ++ [i]))
          else none
      else plain_Steps.layL q K rules ws name fr en (i + 1) acc)
    else some acc
def plain_Steps.mid : Nat → Int → List S126 → List Int → Int → Int → Int → Int → Int → Option Int
  | 0, _, _, _, _, _, _, _, _ => none
  | q + 1, K, rules, ws, x, y, fr, en, m =>
    if 0 ≤ m ∧ m ≤ 100 then
      (table_Count.sign q K rules ws x fr m).bind fun a => if a = 0 then plain_Steps.mid q K rules ws x y fr en (m + 1) else
        (table_Count.sign q K rules ws y m en).bind fun b => if b = 0 then plain_Steps.mid q K rules ws x y fr en (m + 1) else some m
    else none
end
theorem plain_Steps.mono_all (K : Int) (rules : List S126) (ws : List Int) : ∀ q,
    (∀ a b c d, LeO (plain_Steps.lay q K rules ws a b c d) (plain_Steps.lay (q + 1) K rules ws a b c d)) ∧
    (∀ a b c d e, LeO (plain_Steps.layL q K rules ws a b c d e) (plain_Steps.layL (q + 1) K rules ws a b c d e)) ∧
    (∀ a b c d e, LeO (plain_Steps.mid q K rules ws a b c d e) (plain_Steps.mid (q + 1) K rules ws a b c d e)) := by
  intro q
  induction q with
  | zero =>
    refine ⟨fun a b c d r h => ?_, fun a b c d e r h => ?_, fun a b c d e r h => ?_⟩
    · rw [plain_Steps.lay] at h; cases h
    · rw [plain_Steps.layL] at h; cases h
    · rw [plain_Steps.mid] at h; cases h
  | succ q ih =>
    obtain ⟨i1, i2, i3⟩ := ih
    obtain ⟨c1, _, c3, _⟩ := table_Count.mono K rules ws q
    refine ⟨fun a b c d => ?_, fun a b c d e => ?_, fun a b c d e => ?_⟩
    · rw [plain_Steps.lay, plain_Steps.lay]
      split
      · exact i2 _ _ _ _ _
      · exact LeO.refl _
    · rw [plain_Steps.layL, plain_Steps.layL]
      split
      · split
        · refine LeO.bind (c1 _ _ _ _) (fun n => ?_)
          split
          · exact i2 _ _ _ _ _
          · split
            · split
              · exact LeO.bind (i3 _ _ _ _ _) (fun m => LeO.bind (i1 _ _ _ _) (fun a => i1 _ _ _ _))
              · exact LeO.refl _
            · exact LeO.refl _
        · exact i2 _ _ _ _ _
      · exact LeO.refl _
    · rw [plain_Steps.mid, plain_Steps.mid]
      split
      · refine LeO.bind (c3 _ _ _) (fun n => ?_)
        split
        · exact i3 _ _ _ _ _
        · refine LeO.bind (c3 _ _ _) (fun n => ?_)
          split
          · exact i3 _ _ _ _ _
          · exact LeO.refl _
      · exact LeO.refl _
/-- The blocks that the literal's own work holds: none of them is the row of steps. -/
structure plain_Steps.B where
  gb : Nat
  mb : Nat
  gx : Nat
  cx : Nat
  lx : Nat
  fx : Nat
def plain_Steps.B.ok (b : plain_Steps.B) (k : Nat) : Prop := k ≠ b.gb ∧ k ≠ b.mb ∧ k ≠ b.gx ∧ k ≠ b.cx ∧ k ≠ b.lx ∧ k ≠ b.fx
structure plain_Steps.LSt (w0 : World) (b : plain_Steps.B) (K N S0 : Int) (A AW : Option Addr) (cR cW : Nat) (rules : List S126) (ws : List Int) (v : Value) (acc : List Int) (wr : World) : Prop where
  st : tC.St w0 b.gb b.mb K N S0 A AW cR cW rules ws wr
  g : wr.heap[b.gx]? = some (.cells #[.int .i64 K, .int .i64 N, .int .i64 S0, .slice A rules.length cR] 51 (0, 0))
  c : wr.heap[b.cx]? = some (.cells #[.pointer (some ⟨b.gb, 0, none⟩)] 120 (0, 0))
  f : wr.heap[b.fx]? = some (.cells #[.func (.func 77) #[] #[.pointer (some ⟨b.gx, 0, none⟩), .pointer (some ⟨b.cx, 0, none⟩), .pointer (some ⟨b.lx, 0, none⟩), .pointer (some ⟨b.fx, 0, none⟩)]] 127 (0, 0))
  l : wr.heap[b.lx]? = some (.cells #[v] 23 (0, 0))
  row : (Kd.int .i64).R 3 wr w0.heap.size b.ok v acc
/-- What the literal may change: the map, the row's variable, the row itself. -/
structure plain_Steps.LRel (b : plain_Steps.B) (v v' : Value) (w w' : World) : Prop where
  os : w'.os = w.os
  tape : w'.tape = w.tape
  output : w'.output = w.output
  size : w.heap.size ≤ w'.heap.size
  block : ∀ k, k < w.heap.size → k ≠ b.mb → k ≠ b.lx → some k ≠ v.ownBlock → w'.heap[k]? = w.heap[k]?
  own : v'.ownBlock = v.ownBlock ∨ ∃ k, v'.ownBlock = some k ∧ w.heap.size ≤ k
theorem plain_Steps.LRel.refl (b : plain_Steps.B) (v : Value) (w : World) : plain_Steps.LRel b v v w w := ⟨rfl, rfl, rfl, Nat.le_refl _, fun _ _ _ _ _ => rfl, Or.inl rfl⟩
theorem plain_Steps.LRel.trans {b : plain_Steps.B} {v v1 v2 : Value} {w w1 w2 : World} (h : plain_Steps.LRel b v v1 w w1) (k : plain_Steps.LRel b v1 v2 w1 w2) : plain_Steps.LRel b v v2 w w2 := by
  refine ⟨k.os.trans h.os, k.tape.trans h.tape, k.output.trans h.output, Nat.le_trans h.size k.size, fun i hi h1 h2 h3 => ?_, ?_⟩
  · refine (k.block i (Nat.lt_of_lt_of_le hi h.size) h1 h2 ?_).trans (h.block i hi h1 h2 h3)
    rcases h.own with e | ⟨j, e, hj⟩
    · rw [e]; exact h3
    · rw [e]
      intro e2
      injection e2 with e2
      omega
  · rcases k.own with e | ⟨j, e, hj⟩
    · rcases h.own with e2 | ⟨j, e2, hj⟩
      · exact Or.inl (e.trans e2)
      · exact Or.inr ⟨j, e.trans e2, hj⟩
    · exact Or.inr ⟨j, e, Nat.le_trans h.size hj⟩
theorem plain_Steps.LRel.of_map {b : plain_Steps.B} (v : Value) {w w1 : World} (h : w.grownBy w1 (some b.mb)) : plain_Steps.LRel b v v w w1 :=
  ⟨h.os, h.tape, h.output, h.size, fun i hi h1 _ _ => h.block i hi (by intro e; injection e with e; exact h1 e), Or.inl rfl⟩
theorem plain_Steps.LRel.of_none {b : plain_Steps.B} (v : Value) {w w1 : World} (h : w.grownBy w1 none) : plain_Steps.LRel b v v w w1 :=
  ⟨h.os, h.tape, h.output, h.size, fun i hi _ _ _ => h.block i hi (by simp), Or.inl rfl⟩
section
variable {w0 : World} {b : plain_Steps.B} {K N S0 : Int} {A AW : Option Addr} {cR cW : Nat} {rules : List S126} {ws : List Int}
theorem plain_Steps.LSt.map {v : Value} {acc : List Int} {w w1 : World} (h : plain_Steps.LSt w0 b K N S0 A AW cR cW rules ws v acc w) (st : tC.St w0 b.gb b.mb K N S0 A AW cR cW rules ws w1) (hg : w.grownBy w1 (some b.mb)) : plain_Steps.LSt w0 b K N S0 A AW cR cW rules ws v acc w1 :=
  ⟨st, tC.blk_map h.g h.st hg, tC.blk_map h.c h.st hg, tC.blk_map h.f h.st hg, tC.blk_map h.l h.st hg, Kd.R_grown h.row hg (fun k hk e => by injection e with e; exact hk.2.1 e)⟩
theorem plain_Steps.LSt.more {v : Value} {acc : List Int} {w w1 : World} (h : plain_Steps.LSt w0 b K N S0 A AW cR cW rules ws v acc w) (hg : w.grownBy w1 none) : plain_Steps.LSt w0 b K N S0 A AW cR cW rules ws v acc w1 :=
  ⟨h.st.kept hg, blk_grown h.g hg (by simp), blk_grown h.c hg (by simp), blk_grown h.f hg (by simp), blk_grown h.l hg (by simp), Kd.R_grown h.row hg (fun k hk e => by cases e)⟩
theorem plain_Steps.grown_set {w : World} {g : Nat} {u : Value} : w.grownBy (w.setCell ⟨g, 0, none⟩ u) (some g) :=
  ⟨rfl, rfl, rfl, by simp [World.setCell], fun k _ hk => Below.heap_setCell w ⟨g, 0, none⟩ u k (by intro e; exact hk (by rw [e]))⟩
theorem plain_Steps.LSt.push {v v1 : Value} {acc acc1 : List Int} {w w1 : World} (h : plain_Steps.LSt w0 b K N S0 A AW cR cW rules ws v acc w) (hlx : w0.heap.size ≤ b.lx) (hg : w.grownBy w1 v.ownBlock) (hrow : (Kd.int .i64).R 3 w1 w0.heap.size b.ok v1 acc1) (hb : Below w0.heap.size w0 w1) (hat : v1.ownBlock = v.ownBlock ∨ ∃ k, v1.ownBlock = some k ∧ w.heap.size ≤ k) :
    plain_Steps.LSt w0 b K N S0 A AW cR cW rules ws v1 acc1 (w1.setCell ⟨b.lx, 0, none⟩ v1) ∧ plain_Steps.LRel b v v1 w (w1.setCell ⟨b.lx, 0, none⟩ v1) := by
  have no : ∀ g : Nat, ¬ b.ok g → some g ≠ v.ownBlock := fun g hng e => hng (h.row.1 g e.symm)
  have g1 := blk_grown h.g hg (no _ (fun hk => hk.2.2.1 rfl))
  have c1 := blk_grown h.c hg (no _ (fun hk => hk.2.2.2.1 rfl))
  have f1 := blk_grown h.f hg (no _ (fun hk => hk.2.2.2.2.2 rfl))
  have l1 := blk_grown h.l hg (no _ (fun hk => hk.2.2.2.2.1 rfl))
  have b1 := blk_grown h.st.blk hg (no _ (fun hk => hk.1 rfl))
  have o1 := tC.own_kept h.st.own hg (no _ (fun hk => hk.2.1 rfl))
  have gs := @plain_Steps.grown_set w1 b.lx v1
  have nm : some b.mb ≠ some b.lx := by
    intro e
    injection e with e
    exact h.st.apart h.l e.symm
  refine ⟨⟨⟨hb.setCell hlx v1, blk_far b1 (blk_ne b1 l1 (by decide)) v1, tC.own_kept o1 gs nm⟩, blk_far g1 (blk_ne g1 l1 (by decide)) v1, blk_far c1 (blk_ne c1 l1 (by decide)) v1, blk_far f1 (blk_ne f1 l1 (by decide)) v1, blk_put l1 0 v1 rfl, Kd.R_far hrow (fun k hk => hk.2.2.2.2.1) v1⟩, ⟨?_, ?_, ?_, ?_, ?_, hat⟩⟩
  · exact hg.os
  · exact hg.tape
  · exact hg.output
  · exact Nat.le_trans hg.size gs.size
  · intro k hk h1 h2 h3
    refine (gs.block k (Nat.lt_of_lt_of_le hk hg.size) ?_).trans (hg.block k hk h3)
    intro e
    injection e with e
    exact h2 e
theorem plain_Steps.LSt.fresh {v : Value} {acc : List Int} {w : World} (h : plain_Steps.LSt w0 b K N S0 A AW cR cW rules ws v acc w) : ∀ k, w.heap.size ≤ k → b.ok k := by
  intro k hk
  have h1 := blk_lt h.g
  have h2 := blk_lt h.c
  have h3 := blk_lt h.f
  have h4 := blk_lt h.l
  have h5 := blk_lt h.st.blk
  obtain ⟨D, ho, _⟩ := h.st.own
  have h6 := ho.lt
  refine ⟨?_, ?_, ?_, ?_, ?_, ?_⟩ <;> omega
theorem plain_Steps.LSt.apart {v : Value} {acc : List Int} {w : World} (h : plain_Steps.LSt w0 b K N S0 A AW cR cW rules ws v acc w) {g : Nat} (hng : ¬ b.ok g) : some g ≠ v.ownBlock := fun e => hng (h.row.1 g e.symm)
theorem tC.ne_own {v : Value} {w : World} (h : ∀ k, v.ownBlock = some k → k < w.heap.size) : some w.heap.size ≠ v.ownBlock := fun e => by
  have := h _ e.symm
  omega
theorem plain_Steps.LRel.blk {v v' : Value} {acc : List Int} {w w' : World} (h : plain_Steps.LRel b v v' w w') (hs : plain_Steps.LSt w0 b K N S0 A AW cR cW rules ws v acc w) {g : Nat} {cs : Array Value} (hb : w.heap[g]? = some (.cells cs 126 (0, 0))) : w'.heap[g]? = some (.cells cs 126 (0, 0)) := by
  refine (h.block g (blk_lt hb) (hs.st.apart hb) (blk_ne hb hs.l (by decide)) (Kd.R_ne hs.row hb (by decide))).trans hb
end
theorem plain_Steps.info : (Try.prog.info? 3).map (fun i => (i.zero, i.size, i.bytes)) = some (some (.int .i64 0), 1, 8) := by kernel_rfl
theorem plain_Steps.results0 {P : Program} {fn : Func} (h : fn.results = #[]) (tmps : Array Value) (w : World) : (results fn tmps).run P w = .ok (.tuple #[]) w := by simp [results, h]
def plain_Steps.LayPost (w0 : World) (b : plain_Steps.B) (K N S0 : Int) (A AW : Option Addr) (cR cW : Nat) (rules : List S126) (ws : List Int) (v : Value) (acc' : List Int) (w : World) (e : Ending) (w' : World) : Prop :=
  ∃ v', e = .returned (.tuple #[]) ∧ plain_Steps.LSt w0 b K N S0 A AW cR cW rules ws v' acc' w' ∧ plain_Steps.LRel b v v' w w'
def plain_Steps.LaySpec (w0 : World) (b : plain_Steps.B) (K N S0 : Int) (A AW : Option Addr) (cR cW : Nat) (rules : List S126) (ws : List Int) (q : Nat) : Prop :=
  ∀ (name fr en : Int) (acc acc' : List Int) (v : Value) (w : World), plain_Steps.lay q K rules ws name fr en acc = some acc' → plain_Steps.LSt w0 b K N S0 A AW cR cW rules ws v acc w →
    Calls Try.prog 77 #[.int .i64 name, .int .i64 fr, .int .i64 en, .pointer (some ⟨b.gx, 0, none⟩), .pointer (some ⟨b.cx, 0, none⟩), .pointer (some ⟨b.lx, 0, none⟩), .pointer (some ⟨b.fx, 0, none⟩)] w (plain_Steps.LayPost w0 b K N S0 A AW cR cW rules ws v acc' w)
set_option maxHeartbeats 8000000 in
set_option maxRecDepth 100000 in
theorem plain_Steps.lay_step {w0 : World} {b : plain_Steps.B} {K N S0 : Int} {A AW : Option Addr} {cR cW : Nat} {rules : List S126} {ws : List Int} (HR0 : Kd.C k126 w0 A rules.length rules) (HW0 : Kd.C (Kd.int .i64) w0 AW ws.length ws) (g1 : w0.heap.size ≤ b.gb) (g2 : w0.heap.size ≤ b.mb) (g3 : w0.heap.size ≤ b.lx) (q : Nat) (IH : ∀ q', q' < q → plain_Steps.LaySpec w0 b K N S0 A AW cR cW rules ws q') : plain_Steps.LaySpec w0 b K N S0 A AW cR cW rules ws q := by
  intro name fr en acc acc' v w h st
  cases q with
  | zero => rw [plain_Steps.lay] at h; cases h
  | succ q =>
    obtain ⟨Av, cv, rfl⟩ := Kd.R_slice st.row
    rw [plain_Steps.lay] at h
    by_cases hg : rules.length ≤ 10
    · rw [if_pos hg] at h
      have BOTH := Aside0.mk (fun q' => tC.both (gb := b.gb) (mb := b.mb) (K := K) (N := N) (S0 := S0) (cR := cR) (cW := cW) HR0 HW0 g1 g2 q')
      have HR := Aside0.mk HR0
      have HL := Aside0.mk h
      have ST := Aside0.mk st
      have IH' := Aside0.mk IH
      have G3 := Aside0.mk g3
      have HG := Aside0.mk hg
      have hc3 : w.cell? ⟨b.gx, 3, none⟩ = some (.slice A rules.length cR) := (blk_cell st.g 3).trans rfl
      clear HR0 HW0 g1 g2 g3 h st IH hg
      obtain ⟨gb, mb, gx, cx, lx, fx⟩ := b
      simp only at hc3
      go_enter Try.func77, Try.ntmps77
      go_wp2
      clear hc3
      go_loopg [16] rules.length (fun gg v16 wr => ∃ (i : Nat) (q' : Nat), q' ≤ q ∧ i ≤ rules.length ∧ rules.length - i ≤ gg ∧ v16 = .int .i64 i ∧ Aside0 (plain_Steps.layL q' K rules ws name fr en i acc = some acc') ∧ Aside0 (plain_Steps.LSt w0 ⟨gb, mb, gx, cx, lx, fx⟩ K N S0 A AW cR cW rules ws (.slice Av acc.length cv) acc wr) ∧ Aside0 (plain_Steps.LRel ⟨gb, mb, gx, cx, lx, fx⟩ (.slice Av acc.length cv) (.slice Av acc.length cv) w wr))
      case atStart => exact ⟨0, q, Nat.le_refl _, Nat.zero_le _, by omega, rfl, HL, ST, ⟨plain_Steps.LRel.refl _ _ _⟩⟩
      case round =>
        clear HL ST
        obtain ⟨i, q', hq, hi, hgg, rfl, H, ST, RL⟩ := hrel
        cases q' with
        | zero => have h := H.out; rw [plain_Steps.layL] at h; cases h
        | succ q1 =>
          have h := H.out
          rw [plain_Steps.layL] at h
          by_cases hlt : i < rules.length
          · have hltz : (i : Int) < (rules.length : Int) := by omega
            rw [if_pos hltz] at h
            have hltb : decide ((i : Int) < (rules.length : Int)) = true := decide_eq_true hltz
            obtain ⟨ad, A1, c1, e1, hx0, hx1, hl1, hi1⟩ := at_T126 HR.out (i : Int) (by omega) hltz
            cases e1
            have hy0 := pw_cell_below ST.out.st.below hx0
            have hy1 := pw_cell_below ST.out.st.below hx1
            rw [Int.toNat_natCast] at hy0 hy1
            have HI := Aside0.mk hi1
            have hi64 : wrap64 ((i : Int) + 1) = (i : Int) + 1 := by have := HG.out; unfold wrap64; omega
            have M := Aside0.mk (And.intro (show q1 < q + 1 by omega) (And.intro (show q1 ≤ q by omega) (And.intro (show i + 1 ≤ rules.length by omega) (show rules.length - (i + 1) < gk by omega))))
            have r0 := eq_true (show (0 : Int) ≤ (i : Int) by omega)
            have r1 := eq_true hltz
            obtain ⟨R1, hR1⟩ : ∃ R1, (rd_T126 rules (i : Int)).f1 = R1 := ⟨_, rfl⟩
            obtain ⟨f0, hf0⟩ : ∃ f0, (rd_T126 rules (i : Int)).f0 = f0 := ⟨_, rfl⟩
            rw [hR1] at h hy1 HI
            rw [hf0] at h hy0
            clear hx0 hx1 hi1 hl1 H hR1 hf0 hq hi hgg hlt hltz
            by_cases c5 : f0 = name
            · rw [if_pos c5] at h
              subst c5
              replace h := Option.bind_eq_some_iff.mp h
              obtain ⟨n, hn, h⟩ := h
              have HN := Aside0.mk hn
              have hcc : wr.cell? ⟨cx, 0, none⟩ = some (.pointer (some ⟨gb, 0, none⟩)) := (blk_cell ST.out.c 0).trans rfl
              have hcca := fun o => Lib.cell?_alloc_some o hcc
              by_cases c6 : n = 0
              · rw [if_pos c6] at h
                have H := Aside0.mk h
                subst c6
                clear h hn
                go_wp2_with (go_at_call 78; refine ((BOTH.out q1).1 (i : Int) 0 fr en 0 _ HN.out (ST.out.more (World.grownBy_alloc _ _ none)).st).mono ?_; rintro e w2 ⟨rfl, ST2', GW2'⟩; have ST2 := Aside0.mk (plain_Steps.LSt.map (ST.out.more (World.grownBy_alloc _ _ none)) ST2' GW2'); have RL2 := Aside0.mk (RL.out.trans ((plain_Steps.LRel.of_none _ (World.grownBy_alloc _ _ none)).trans (plain_Steps.LRel.of_map _ GW2'))); clear ST2' GW2')
                go_roundg (rules.length - (i + 1))
                case measure => exact M.out.2.2.2
                case rel => exact ⟨i + 1, q1, M.out.2.1, M.out.2.2.1, Nat.le_refl _, by first | rfl | (rw [hi64]; rfl), H, ST2, RL2⟩
              · rw [if_neg c6] at h
                have c6b : (n == 0) = false := by rw [beq_eq_false_iff_ne]; exact c6
                by_cases c7 : acc.length < 1000
                · rw [if_pos c7] at h
                  have BX := Aside0.mk (heap_alloc_new wr (Obj.cells #[.int .i64 f0, .slice A1 R1.length c1] 126))
                  have OWN := Aside0.mk (Kd.R_lt ST.out.row)
                  have LXL := Aside0.mk (blk_lt ST.out.l)
                  have C7 := Aside0.mk c7
                  have STa := Aside0.mk (ST.out.more (World.grownBy_alloc wr (Obj.cells #[.int .i64 f0, .slice A1 R1.length c1] 126) none))
                  have RLa := Aside0.mk (RL.out.trans (plain_Steps.LRel.of_none _ (World.grownBy_alloc wr (Obj.cells #[.int .i64 f0, .slice A1 R1.length c1] 126) none)))
                  clear c6 c7 hn
                  by_cases c8 : R1.length = 2
                  · rw [if_pos c8] at h
                    replace h := Option.bind_eq_some_iff.mp h
                    obtain ⟨m, hm, h⟩ := h
                    replace h := Option.bind_eq_some_iff.mp h
                    obtain ⟨a2, ha2, h⟩ := h
                    have HM := Aside0.mk hm
                    have HA := Aside0.mk ha2
                    have HB := Aside0.mk h
                    have C8 := Aside0.mk c8
                    have c8b : ((R1.length : Int) == 2) = true := by rw [beq_iff_eq]; omega
                    clear h hm ha2 c8
                    go_wp2_with (first
                      | (go_at_call 78; refine ((BOTH.out q1).1 (i : Int) 0 fr en n _ HN.out STa.out.st).mono ?_; rintro e w2 ⟨rfl, ST2', GW2'⟩; have ST2 := Aside0.mk (plain_Steps.LSt.map STa.out ST2' GW2'); have RL2 := Aside0.mk (RLa.out.trans (plain_Steps.LRel.of_map _ GW2')); have BX2 := Aside0.mk (tC.blk_map BX.out STa.out.st GW2'); have hcl2 : w2.cell? ⟨lx, 0, none⟩ = some (.slice Av acc.length cv) := (blk_cell ST2.out.l 0).trans rfl; clear ST2' GW2' hcc hcca hy0 hy1)
                      | ((with_reducible refine gate_builtin (b := .append) (xs := #[.tmp 33, .tmp 35]) rfl ?_); at_builtin; go_loud (refine Kd.R_append (Kd.int .i64) (w0 := w0) w0.heap.size rfl (.tmp 33) (.tmp 35) 23 3 (.int .i64 0) 8 rfl Try.underlying23 plain_Steps.info rfl (by decide) (by omega) (.slice Av acc.length cv) acc (i : Int) [.int .i64 i] (plain_Steps.B.ok ⟨gb, mb, gx, cx, lx, fx⟩) (fun _ => False) rfl rfl ?aP (fun _ hk => hk.elim) ?aF ?aO ?aB ?aS ?aL ?_); (case aP => exact rfl); (case aF => exact ST2.out.fresh); (case aO => exact ST2.out.row); (case aB => exact ST2.out.st.below); (case aS => exact below_size ST2.out.st.below); (case aL => have := C7.out; omega); intro v1 w1 hO hB hG hat; have hl1 := blk_grown ST2.out.l hG (ST2.out.apart (fun hk => hk.2.2.2.2.1 rfl)); have PS := Aside0.mk (ST2.out.push G3.out hG hO hB hat); have BX3 := Aside0.mk (blk_far (p := ⟨lx, 0, none⟩) (blk_grown BX2.out hG (tC.ne_own OWN.out)) (Nat.ne_of_gt LXL.out) v1); obtain ⟨Au, cu, hv1⟩ := Kd.R_slice hO; rw [List.length_append, List.length_singleton] at hv1; subst hv1; have hcl1 : w1.cell? ⟨lx, 0, none⟩ = some (.slice Av acc.length cv) := (blk_cell hl1 0).trans rfl; have hfl1 := blk_frozen hl1 0; have hb1 : w1.cell? ⟨wr.heap.size, 1, none⟩ = some (.slice A1 R1.length c1) := (blk_cell (blk_grown BX2.out hG (tC.ne_own OWN.out)) 1).trans rfl; have hne1 : ¬ wr.heap.size = lx := Nat.ne_of_gt LXL.out; have hne2 : ¬ lx = wr.heap.size := Nat.ne_of_lt LXL.out; clear hl1 hO hB hG hat hcl2))
                    obtain ⟨ad1, rfl, hz0⟩ := Kd.at_int HI.out 0 (by decide) (by have := C8.out; omega)
                    obtain ⟨ad1', e1, hz1⟩ := Kd.at_int HI.out 1 (by decide) (by have := C8.out; omega)
                    cases e1
                    have HZ0 := Aside0.mk hz0
                    have HZ1 := Aside0.mk hz1
                    have LS := Aside0.mk PS.out.1
                    have LR := Aside0.mk (RL2.out.trans PS.out.2)
                    clear hz0 hz1 hcl1 hfl1 hb1 PS
                    generalize w1.setCell ⟨lx, 0, none⟩ (.slice Au (acc.length + 1) cu) = w3 at *
                    obtain ⟨x0, hx0⟩ : ∃ x0, rd R1 0 = x0 := ⟨_, rfl⟩
                    obtain ⟨x1, hx1⟩ : ∃ x1, rd R1 1 = x1 := ⟨_, rfl⟩
                    rw [hx0] at HM HA HZ0
                    rw [hx1] at HM HB HZ1
                    clear hx0 hx1
                    generalize wr.heap.size = bx at *
                    have w5e : wrap64 (fr + 1) = fr + 1 := by
                      have hmm := HM.out
                      cases q1 with
                      | zero => rw [plain_Steps.mid] at hmm; cases hmm
                      | succ q4 =>
                        rw [plain_Steps.mid] at hmm
                        split at hmm
                        · unfold wrap64; omega
                        · cases hmm
                    simp only [w5e]
                    clear w5e hi64 r0 r1 hltb c6b c8b hne1 hne2
                    have BX9 := Aside0.mk (show w3.heap[bx]? = some (.cells #[.int .i64 f0, .slice (some ad1) R1.length c1] 126 (0, 0)) from BX3.out)
                    clear BX3 BX2 BX
                    go_loopg [12] 300 (fun gg v12 wz => ∃ (mm : Int) (q2 : Nat), q2 ≤ q1 ∧ (200 - mm).toNat ≤ gg ∧ v12 = .int .i64 mm ∧ Aside0 (plain_Steps.mid q2 K rules ws x0 x1 fr en mm = some m) ∧ Aside0 (plain_Steps.LSt w0 ⟨gb, mb, gx, cx, lx, fx⟩ K N S0 (some ad) AW cR cW rules ws (.slice Au (acc.length + 1) cu) (acc ++ [(i : Int)]) wz) ∧ Aside0 (plain_Steps.LRel ⟨gb, mb, gx, cx, lx, fx⟩ (.slice Av acc.length cv) (.slice Au (acc.length + 1) cu) w wz) ∧ Aside0 (wz.heap[bx]? = some (.cells #[.int .i64 f0, .slice (some ad1) R1.length c1] 126 (0, 0))))
                    case atStart => exact ⟨fr + 1, q1, Nat.le_refl _, by have hmm := HM.out; (cases q1 with
                      | zero => rw [plain_Steps.mid] at hmm; cases hmm
                      | succ q4 =>
                        rw [plain_Steps.mid] at hmm
                        split at hmm
                        · omega
                        · cases hmm), rfl, HM, LS, LR, BX9⟩
                    case round =>
                      clear HM LS LR BX9
                      obtain ⟨mm, q2, hq2, hg2, rfl, HM, LSz, LRz, BXz⟩ := hrel
                      cases q2 with
                      | zero => have h := HM.out; rw [plain_Steps.mid] at h; cases h
                      | succ q3 =>
                        have h := HM.out
                        rw [plain_Steps.mid] at h
                        by_cases hgd : 0 ≤ mm ∧ mm ≤ 100
                        · rw [if_pos hgd] at h
                          replace h := Option.bind_eq_some_iff.mp h
                          obtain ⟨a, hs, h⟩ := h
                          have HS := Aside0.mk hs
                          have w6e : wrap64 (mm + 1) = mm + 1 := by unfold wrap64; omega
                          have MZ := Aside0.mk (And.intro (show q3 ≤ q1 by omega) (show (200 - (mm + 1)).toNat < gk by omega))
                          have hlz0 : (0 : Int) < (R1.length : Int) := by have := C8.out; omega
                          have hlz1 : (1 : Int) < (R1.length : Int) := by have := C8.out; omega
                          have LSd := Aside0.mk (LSz.out.more (w1 := wr.drew) (tC.grown_drew (World.grownBy.refl _ _) 1))
                          have LRd := Aside0.mk (LRz.out.trans (plain_Steps.LRel.of_none _ (w1 := wr.drew) (tC.grown_drew (World.grownBy.refl _ _) 1)))
                          have BXd := Aside0.mk (show wr.drew.heap[bx]? = some (.cells #[.int .i64 f0, .slice (some ad1) R1.length c1] 126 (0, 0)) from BXz.out)
                          have GSd := Aside0.mk (show  wr.drew.cell? ⟨cx, 0, none⟩ = some (.pointer (some ⟨gb, 0, none⟩)) ∧ wr.drew.cell? ⟨bx, 1, none⟩ = some (.slice (some ad1) R1.length c1) ∧ wr.drew.cell? ad1 = some (.int .i64 x0) ∧ wr.drew.cell? ⟨ad1.block, ad1.off + 1, none⟩ = some (.int .i64 x1) from ⟨(blk_cell LSd.out.c 0).trans rfl, (blk_cell BXd.out 1).trans rfl, pw_cell_below LSd.out.st.below HZ0.out, pw_cell_below LSd.out.st.below HZ1.out⟩)
                          obtain ⟨y0, y1, y2, y3⟩ := GSd.out
                          have w7e := Aside0.mk w6e
                          clear hs hq2 hg2 hgd HM w6e
                          have hn0 : 0 < R1.length := by have := C8.out; omega
                          have hn1 : 1 < R1.length := by have := C8.out; omega
                          by_cases ca : a = 0
                          · rw [if_pos ca] at h
                            have HM := Aside0.mk h
                            subst ca
                            clear h
                            go_wp2
                            refine start_ (n := 20) (S := (fun w' => w'.cell? ⟨cx, 0, none⟩ = some (.pointer (some ⟨gb, 0, none⟩)) ∧ w'.cell? ⟨bx, 1, none⟩ = some (.slice (some ad1) R1.length c1) ∧ w'.cell? ad1 = some (.int .i64 x0) ∧ w'.cell? ⟨ad1.block, ad1.off + 1, none⟩ = some (.int .i64 x1))) (ds := []) #[false, false, false, false, false, false, false, false, false, false, false, false, false, false, false, false, false, false, false, false] (by kernel_rfl) rfl rfl (⟨y0, y1, y2, y3⟩) (fun hHeld => ?_)
                            refine take_ (i := 0) (N := some 43) (v := ?_) (a' := ?_) #[true, false, false, false, false, false, false, false, false, false, false, false, false, false, false, false, false, false, false, false] rfl rfl (by kernel_rfl) (fun _ _ _ h_ => h_) (Or.inl ⟨by rfl, ?_⟩) hHeld ?_ ?_
                            rotate_left
                            · intro w_ hSw
                              (try dsimp only at hSw)
                              go_simp
                              first | done | with_reducible rfl
                            rotate_left
                            · simp only [Act.put, List.setIfInBounds_toArray, List.set_cons_zero, List.set_cons_succ]
                              rfl
                            refine take_ (i := 1) (N := some 44) (v := ?_) (a' := ?_) #[true, true, false, false, false, false, false, false, false, false, false, false, false, false, false, false, false, false, false, false] rfl rfl (by kernel_rfl) (fun _ _ _ h_ => h_) (Or.inl ⟨by rfl, ?_⟩) hHeld ?_ ?_
                            rotate_left
                            · intro w_ hSw
                              (try dsimp only at hSw)
                              go_simp
                              first | done | with_reducible rfl
                            rotate_left
                            · simp only [Act.put, List.setIfInBounds_toArray, List.set_cons_zero, List.set_cons_succ]
                              rfl
                            refine take_ (i := 2) (N := some 45) (v := ?_) (a' := ?_) #[true, true, true, false, false, false, false, false, false, false, false, false, false, false, false, false, false, false, false, false] rfl rfl (by kernel_rfl) (fun _ _ _ h_ => h_) (Or.inl ⟨by rfl, ?_⟩) hHeld ?_ ?_
                            rotate_left
                            · intro w_ hSw
                              (try dsimp only at hSw)
                              go_simp
                              first | done | with_reducible rfl
                            rotate_left
                            · simp only [Act.put, List.setIfInBounds_toArray, List.set_cons_zero, List.set_cons_succ]
                              rfl
                            refine take_ (i := 3) (N := some 46) (v := ?_) (a' := ?_) #[true, true, true, true, false, false, false, false, false, false, false, false, false, false, false, false, false, false, false, false] rfl rfl (by kernel_rfl) (fun _ _ _ h_ => h_) (Or.inl ⟨by rfl, ?_⟩) hHeld ?_ ?_
                            rotate_left
                            · intro w_ hSw
                              (try dsimp only at hSw)
                              go_simp
                              first | done | with_reducible rfl
                            rotate_left
                            · simp only [Act.put, List.setIfInBounds_toArray, List.set_cons_zero, List.set_cons_succ]
                              rfl
                            refine take_ (i := 4) (N := some 47) (v := ?_) (a' := ?_) #[true, true, true, true, true, false, false, false, false, false, false, false, false, false, false, false, false, false, false, false] rfl rfl (by kernel_rfl) (fun _ _ _ h_ => h_) (Or.inl ⟨by rfl, ?_⟩) hHeld ?_ ?_
                            rotate_left
                            · intro w_ hSw
                              (try dsimp only at hSw)
                              go_simp
                              first | done | with_reducible rfl
                            rotate_left
                            · simp only [Act.put, List.setIfInBounds_toArray, List.set_cons_zero, List.set_cons_succ]
                              rfl
                            refine take_ (i := 5) (N := some 48) (v := ?_) (a' := ?_) #[true, true, true, true, true, true, false, false, false, false, false, false, false, false, false, false, false, false, false, false] rfl rfl (by kernel_rfl) (fun _ _ _ h_ => h_) (Or.inl ⟨by rfl, ?_⟩) hHeld ?_ ?_
                            rotate_left
                            · intro w_ hSw
                              (try dsimp only at hSw)
                              go_simp
                              first | done | with_reducible rfl
                            rotate_left
                            · simp only [Act.put, List.setIfInBounds_toArray, List.set_cons_zero, List.set_cons_succ]
                              rfl
                            refine take_ (i := 6) (N := some 49) (v := ?_) (a' := ?_) #[true, true, true, true, true, true, true, false, false, false, false, false, false, false, false, false, false, false, false, false] rfl rfl (by kernel_rfl) (fun _ _ _ h_ => h_) (Or.inl ⟨by rfl, ?_⟩) hHeld ?_ ?_
                            rotate_left
                            · intro w_ hSw
                              (try dsimp only at hSw)
                              go_simp
                              first | done | with_reducible rfl
                            rotate_left
                            · simp only [Act.put, List.setIfInBounds_toArray, List.set_cons_zero, List.set_cons_succ]
                              rfl
                            refine one_ (i := 7) (N := some 50) #[true, true, true, true, true, true, true, true, false, false, false, false, false, false, false, false, false, false, false, false] rfl rfl (by kernel_rfl) (by decide) (fun K_ hK_ => ?_)
                            go_simp
                            (go_at_call 74; refine ((BOTH.out q3).2 x0 fr mm 0 _ HS.out LSd.out.st).mono ?_; rintro e w5 ⟨rfl, st5, gw5⟩; have LS5 := Aside0.mk (plain_Steps.LSt.map LSd.out st5 gw5); have LR5 := Aside0.mk (LRd.out.trans (plain_Steps.LRel.of_map _ gw5)); have BX5 := Aside0.mk (tC.blk_map BXd.out LSd.out.st gw5); have GS5 := Aside0.mk (show  w5.cell? ⟨cx, 0, none⟩ = some (.pointer (some ⟨gb, 0, none⟩)) ∧ w5.cell? ⟨bx, 1, none⟩ = some (.slice (some ad1) R1.length c1) ∧ w5.cell? ad1 = some (.int .i64 x0) ∧ w5.cell? ⟨ad1.block, ad1.off + 1, none⟩ = some (.int .i64 x1) from ⟨(blk_cell LS5.out.c 0).trans rfl, (blk_cell BX5.out 1).trans rfl, pw_cell_below LS5.out.st.below HZ0.out, pw_cell_below LS5.out.st.below HZ1.out⟩); clear st5 gw5)
                            refine hK_.out _ _ (GS5.out) (fun hHeld => ?_)
                            clear hK_ K_
                            try (refine norm_ (by simp only [Act.put, List.setIfInBounds_toArray, List.set_cons_zero, List.set_cons_succ]; rfl) ?_)
                            refine take_ (i := 8) (N := some 51) (v := ?_) (a' := ?_) #[true, true, true, true, true, true, true, true, true, false, false, false, false, false, false, false, false, false, false, false] rfl rfl (by kernel_rfl) (fun _ _ _ h_ => h_) (Or.inl ⟨by rfl, ?_⟩) hHeld ?_ ?_
                            rotate_left
                            · intro w_ hSw
                              (try dsimp only at hSw)
                              go_simp
                              first | done | with_reducible rfl
                            rotate_left
                            · simp only [Act.put, List.setIfInBounds_toArray, List.set_cons_zero, List.set_cons_succ]
                              rfl
                            refine take_ (i := 9) (N := some 52) (v := ?_) (a' := ?_) #[true, true, true, true, true, true, true, true, true, true, false, false, false, false, false, false, false, false, false, false] rfl rfl (by kernel_rfl) (fun _ _ _ h_ => h_) (Or.inl ⟨by rfl, ?_⟩) hHeld ?_ ?_
                            rotate_left
                            · intro w_ hSw
                              (try dsimp only at hSw)
                              go_simp
                              first | done | with_reducible rfl
                            rotate_left
                            · simp only [Act.put, List.setIfInBounds_toArray, List.set_cons_zero, List.set_cons_succ]
                              rfl
                            refine take_ (i := 10) (N := some 53) (v := undef) (a' := ?_) #[true, true, true, true, true, true, true, true, true, true, true, false, false, false, false, false, false, false, false, false] rfl rfl (by kernel_rfl) (fun _ _ _ h_ => h_) (Or.inr ⟨by rfl, rfl⟩) hHeld ?_ ?_
                            rotate_left
                            · simp only [Act.put, List.setIfInBounds_toArray, List.set_cons_zero, List.set_cons_succ]
                              rfl
                            refine take_ (i := 11) (N := some 54) (v := undef) (a' := ?_) #[true, true, true, true, true, true, true, true, true, true, true, true, false, false, false, false, false, false, false, false] rfl rfl (by kernel_rfl) (fun _ _ _ h_ => h_) (Or.inr ⟨by rfl, rfl⟩) hHeld ?_ ?_
                            rotate_left
                            · simp only [Act.put, List.setIfInBounds_toArray, List.set_cons_zero, List.set_cons_succ]
                              rfl
                            refine take_ (i := 12) (N := some 55) (v := undef) (a' := ?_) #[true, true, true, true, true, true, true, true, true, true, true, true, true, false, false, false, false, false, false, false] rfl rfl (by kernel_rfl) (fun _ _ _ h_ => h_) (Or.inr ⟨by rfl, rfl⟩) hHeld ?_ ?_
                            rotate_left
                            · simp only [Act.put, List.setIfInBounds_toArray, List.set_cons_zero, List.set_cons_succ]
                              rfl
                            refine take_ (i := 13) (N := some 56) (v := undef) (a' := ?_) #[true, true, true, true, true, true, true, true, true, true, true, true, true, true, false, false, false, false, false, false] rfl rfl (by kernel_rfl) (fun _ _ _ h_ => h_) (Or.inr ⟨by rfl, rfl⟩) hHeld ?_ ?_
                            rotate_left
                            · simp only [Act.put, List.setIfInBounds_toArray, List.set_cons_zero, List.set_cons_succ]
                              rfl
                            refine take_ (i := 14) (N := some 57) (v := undef) (a' := ?_) #[true, true, true, true, true, true, true, true, true, true, true, true, true, true, true, false, false, false, false, false] rfl rfl (by kernel_rfl) (fun _ _ _ h_ => h_) (Or.inr ⟨by rfl, rfl⟩) hHeld ?_ ?_
                            rotate_left
                            · simp only [Act.put, List.setIfInBounds_toArray, List.set_cons_zero, List.set_cons_succ]
                              rfl
                            refine take_ (i := 15) (N := some 58) (v := undef) (a' := ?_) #[true, true, true, true, true, true, true, true, true, true, true, true, true, true, true, true, false, false, false, false] rfl rfl (by kernel_rfl) (fun _ _ _ h_ => h_) (Or.inr ⟨by rfl, rfl⟩) hHeld ?_ ?_
                            rotate_left
                            · simp only [Act.put, List.setIfInBounds_toArray, List.set_cons_zero, List.set_cons_succ]
                              rfl
                            refine take_ (i := 16) (N := some 59) (v := undef) (a' := ?_) #[true, true, true, true, true, true, true, true, true, true, true, true, true, true, true, true, true, false, false, false] rfl rfl (by kernel_rfl) (fun _ _ _ h_ => h_) (Or.inr ⟨by rfl, rfl⟩) hHeld ?_ ?_
                            rotate_left
                            · simp only [Act.put, List.setIfInBounds_toArray, List.set_cons_zero, List.set_cons_succ]
                              rfl
                            refine take_ (i := 17) (N := some 60) (v := undef) (a' := ?_) #[true, true, true, true, true, true, true, true, true, true, true, true, true, true, true, true, true, true, false, false] rfl rfl (by kernel_rfl) (fun _ _ _ h_ => h_) (Or.inr ⟨by rfl, rfl⟩) hHeld ?_ ?_
                            rotate_left
                            · simp only [Act.put, List.setIfInBounds_toArray, List.set_cons_zero, List.set_cons_succ]
                              rfl
                            refine take_ (i := 18) (N := some 61) (v := undef) (a' := ?_) #[true, true, true, true, true, true, true, true, true, true, true, true, true, true, true, true, true, true, true, false] rfl rfl (by kernel_rfl) (fun _ _ _ h_ => h_) (Or.inr ⟨by rfl, rfl⟩) hHeld ?_ ?_
                            rotate_left
                            · simp only [Act.put, List.setIfInBounds_toArray, List.set_cons_zero, List.set_cons_succ]
                              rfl
                            refine take_ (i := 19) (N := some 62) (v := ?_) (a' := ?_) #[true, true, true, true, true, true, true, true, true, true, true, true, true, true, true, true, true, true, true, true] rfl rfl (by kernel_rfl) (fun _ _ _ h_ => h_) (Or.inl ⟨by rfl, ?_⟩) hHeld ?_ ?_
                            rotate_left
                            · intro w_ hSw
                              (try dsimp only at hSw)
                              go_simp
                              first | done | with_reducible rfl
                            rotate_left
                            · simp only [Act.put, List.setIfInBounds_toArray, List.set_cons_zero, List.set_cons_succ]
                              rfl
                            refine done_ (by kernel_rfl) ?_
                            have w8e := w7e.out
                            go_wp2
                            go_roundg (200 - (mm + 1)).toNat
                            case measure => exact MZ.out.2
                            case rel => exact ⟨mm + 1, q3, MZ.out.1, Nat.le_refl _, by first | rfl | rw [w8e], HM, LS5, LR5, BX5⟩
                          · rw [if_neg ca] at h
                            replace h := Option.bind_eq_some_iff.mp h
                            obtain ⟨b2, hs2, h⟩ := h
                            have HS2 := Aside0.mk hs2
                            have cab : (a == 0) = false := by rw [beq_eq_false_iff_ne]; exact ca
                            clear hs2 ca
                            by_cases cb : b2 = 0
                            · rw [if_pos cb] at h
                              have HM := Aside0.mk h
                              subst cb
                              clear h
                              go_wp2
                              refine start_ (n := 20) (S := (fun w' => w'.cell? ⟨cx, 0, none⟩ = some (.pointer (some ⟨gb, 0, none⟩)) ∧ w'.cell? ⟨bx, 1, none⟩ = some (.slice (some ad1) R1.length c1) ∧ w'.cell? ad1 = some (.int .i64 x0) ∧ w'.cell? ⟨ad1.block, ad1.off + 1, none⟩ = some (.int .i64 x1))) (ds := []) #[false, false, false, false, false, false, false, false, false, false, false, false, false, false, false, false, false, false, false, false] (by kernel_rfl) rfl rfl (⟨y0, y1, y2, y3⟩) (fun hHeld => ?_)
                              refine take_ (i := 0) (N := some 43) (v := ?_) (a' := ?_) #[true, false, false, false, false, false, false, false, false, false, false, false, false, false, false, false, false, false, false, false] rfl rfl (by kernel_rfl) (fun _ _ _ h_ => h_) (Or.inl ⟨by rfl, ?_⟩) hHeld ?_ ?_
                              rotate_left
                              · intro w_ hSw
                                (try dsimp only at hSw)
                                go_simp
                                first | done | with_reducible rfl
                              rotate_left
                              · simp only [Act.put, List.setIfInBounds_toArray, List.set_cons_zero, List.set_cons_succ]
                                rfl
                              refine take_ (i := 1) (N := some 44) (v := ?_) (a' := ?_) #[true, true, false, false, false, false, false, false, false, false, false, false, false, false, false, false, false, false, false, false] rfl rfl (by kernel_rfl) (fun _ _ _ h_ => h_) (Or.inl ⟨by rfl, ?_⟩) hHeld ?_ ?_
                              rotate_left
                              · intro w_ hSw
                                (try dsimp only at hSw)
                                go_simp
                                first | done | with_reducible rfl
                              rotate_left
                              · simp only [Act.put, List.setIfInBounds_toArray, List.set_cons_zero, List.set_cons_succ]
                                rfl
                              refine take_ (i := 2) (N := some 45) (v := ?_) (a' := ?_) #[true, true, true, false, false, false, false, false, false, false, false, false, false, false, false, false, false, false, false, false] rfl rfl (by kernel_rfl) (fun _ _ _ h_ => h_) (Or.inl ⟨by rfl, ?_⟩) hHeld ?_ ?_
                              rotate_left
                              · intro w_ hSw
                                (try dsimp only at hSw)
                                go_simp
                                first | done | with_reducible rfl
                              rotate_left
                              · simp only [Act.put, List.setIfInBounds_toArray, List.set_cons_zero, List.set_cons_succ]
                                rfl
                              refine take_ (i := 3) (N := some 46) (v := ?_) (a' := ?_) #[true, true, true, true, false, false, false, false, false, false, false, false, false, false, false, false, false, false, false, false] rfl rfl (by kernel_rfl) (fun _ _ _ h_ => h_) (Or.inl ⟨by rfl, ?_⟩) hHeld ?_ ?_
                              rotate_left
                              · intro w_ hSw
                                (try dsimp only at hSw)
                                go_simp
                                first | done | with_reducible rfl
                              rotate_left
                              · simp only [Act.put, List.setIfInBounds_toArray, List.set_cons_zero, List.set_cons_succ]
                                rfl
                              refine take_ (i := 4) (N := some 47) (v := ?_) (a' := ?_) #[true, true, true, true, true, false, false, false, false, false, false, false, false, false, false, false, false, false, false, false] rfl rfl (by kernel_rfl) (fun _ _ _ h_ => h_) (Or.inl ⟨by rfl, ?_⟩) hHeld ?_ ?_
                              rotate_left
                              · intro w_ hSw
                                (try dsimp only at hSw)
                                go_simp
                                first | done | with_reducible rfl
                              rotate_left
                              · simp only [Act.put, List.setIfInBounds_toArray, List.set_cons_zero, List.set_cons_succ]
                                rfl
                              refine take_ (i := 5) (N := some 48) (v := ?_) (a' := ?_) #[true, true, true, true, true, true, false, false, false, false, false, false, false, false, false, false, false, false, false, false] rfl rfl (by kernel_rfl) (fun _ _ _ h_ => h_) (Or.inl ⟨by rfl, ?_⟩) hHeld ?_ ?_
                              rotate_left
                              · intro w_ hSw
                                (try dsimp only at hSw)
                                go_simp
                                first | done | with_reducible rfl
                              rotate_left
                              · simp only [Act.put, List.setIfInBounds_toArray, List.set_cons_zero, List.set_cons_succ]
                                rfl
                              refine take_ (i := 6) (N := some 49) (v := ?_) (a' := ?_) #[true, true, true, true, true, true, true, false, false, false, false, false, false, false, false, false, false, false, false, false] rfl rfl (by kernel_rfl) (fun _ _ _ h_ => h_) (Or.inl ⟨by rfl, ?_⟩) hHeld ?_ ?_
                              rotate_left
                              · intro w_ hSw
                                (try dsimp only at hSw)
                                go_simp
                                first | done | with_reducible rfl
                              rotate_left
                              · simp only [Act.put, List.setIfInBounds_toArray, List.set_cons_zero, List.set_cons_succ]
                                rfl
                              refine one_ (i := 7) (N := some 50) #[true, true, true, true, true, true, true, true, false, false, false, false, false, false, false, false, false, false, false, false] rfl rfl (by kernel_rfl) (by decide) (fun K_ hK_ => ?_)
                              go_simp
                              (go_at_call 74; refine ((BOTH.out q3).2 x0 fr mm a _ HS.out LSd.out.st).mono ?_; rintro e w5 ⟨rfl, st5, gw5⟩; have LS5 := Aside0.mk (plain_Steps.LSt.map LSd.out st5 gw5); have LR5 := Aside0.mk (LRd.out.trans (plain_Steps.LRel.of_map _ gw5)); have BX5 := Aside0.mk (tC.blk_map BXd.out LSd.out.st gw5); have GS5 := Aside0.mk (show  w5.cell? ⟨cx, 0, none⟩ = some (.pointer (some ⟨gb, 0, none⟩)) ∧ w5.cell? ⟨bx, 1, none⟩ = some (.slice (some ad1) R1.length c1) ∧ w5.cell? ad1 = some (.int .i64 x0) ∧ w5.cell? ⟨ad1.block, ad1.off + 1, none⟩ = some (.int .i64 x1) from ⟨(blk_cell LS5.out.c 0).trans rfl, (blk_cell BX5.out 1).trans rfl, pw_cell_below LS5.out.st.below HZ0.out, pw_cell_below LS5.out.st.below HZ1.out⟩); clear st5 gw5)
                              refine hK_.out _ _ (GS5.out) (fun hHeld => ?_)
                              clear hK_ K_
                              try (refine norm_ (by simp only [Act.put, List.setIfInBounds_toArray, List.set_cons_zero, List.set_cons_succ]; rfl) ?_)
                              refine take_ (i := 8) (N := some 51) (v := ?_) (a' := ?_) #[true, true, true, true, true, true, true, true, true, false, false, false, false, false, false, false, false, false, false, false] rfl rfl (by kernel_rfl) (fun _ _ _ h_ => h_) (Or.inl ⟨by rfl, ?_⟩) hHeld ?_ ?_
                              rotate_left
                              · intro w_ hSw
                                (try dsimp only at hSw)
                                go_simp
                                first | done | with_reducible rfl
                              rotate_left
                              · simp only [Act.put, List.setIfInBounds_toArray, List.set_cons_zero, List.set_cons_succ]
                                rfl
                              refine take_ (i := 9) (N := some 52) (v := ?_) (a' := ?_) #[true, true, true, true, true, true, true, true, true, true, false, false, false, false, false, false, false, false, false, false] rfl rfl (by kernel_rfl) (fun _ _ _ h_ => h_) (Or.inl ⟨by rfl, ?_⟩) hHeld ?_ ?_
                              rotate_left
                              · intro w_ hSw
                                (try dsimp only at hSw)
                                go_simp
                                first | done | with_reducible rfl
                              rotate_left
                              · simp only [Act.put, List.setIfInBounds_toArray, List.set_cons_zero, List.set_cons_succ]
                                rfl
                              refine take_ (i := 10) (N := some 53) (v := ?_) (a' := ?_) #[true, true, true, true, true, true, true, true, true, true, true, false, false, false, false, false, false, false, false, false] rfl rfl (by kernel_rfl) (fun _ _ _ h_ => h_) (Or.inl ⟨by rfl, ?_⟩) hHeld ?_ ?_
                              rotate_left
                              · intro w_ hSw
                                (try dsimp only at hSw)
                                go_simp
                                first | done | with_reducible rfl
                              rotate_left
                              · simp only [Act.put, List.setIfInBounds_toArray, List.set_cons_zero, List.set_cons_succ]
                                rfl
                              refine take_ (i := 11) (N := some 54) (v := ?_) (a' := ?_) #[true, true, true, true, true, true, true, true, true, true, true, true, false, false, false, false, false, false, false, false] rfl rfl (by kernel_rfl) (fun _ _ _ h_ => h_) (Or.inl ⟨by rfl, ?_⟩) hHeld ?_ ?_
                              rotate_left
                              · intro w_ hSw
                                (try dsimp only at hSw)
                                go_simp
                                first | done | with_reducible rfl
                              rotate_left
                              · simp only [Act.put, List.setIfInBounds_toArray, List.set_cons_zero, List.set_cons_succ]
                                rfl
                              refine take_ (i := 12) (N := some 55) (v := ?_) (a' := ?_) #[true, true, true, true, true, true, true, true, true, true, true, true, true, false, false, false, false, false, false, false] rfl rfl (by kernel_rfl) (fun _ _ _ h_ => h_) (Or.inl ⟨by rfl, ?_⟩) hHeld ?_ ?_
                              rotate_left
                              · intro w_ hSw
                                (try dsimp only at hSw)
                                go_simp
                                first | done | with_reducible rfl
                              rotate_left
                              · simp only [Act.put, List.setIfInBounds_toArray, List.set_cons_zero, List.set_cons_succ]
                                rfl
                              refine take_ (i := 13) (N := some 56) (v := ?_) (a' := ?_) #[true, true, true, true, true, true, true, true, true, true, true, true, true, true, false, false, false, false, false, false] rfl rfl (by kernel_rfl) (fun _ _ _ h_ => h_) (Or.inl ⟨by rfl, ?_⟩) hHeld ?_ ?_
                              rotate_left
                              · intro w_ hSw
                                (try dsimp only at hSw)
                                go_simp
                                first | done | with_reducible rfl
                              rotate_left
                              · simp only [Act.put, List.setIfInBounds_toArray, List.set_cons_zero, List.set_cons_succ]
                                rfl
                              refine take_ (i := 14) (N := some 57) (v := ?_) (a' := ?_) #[true, true, true, true, true, true, true, true, true, true, true, true, true, true, true, false, false, false, false, false] rfl rfl (by kernel_rfl) (fun _ _ _ h_ => h_) (Or.inl ⟨by rfl, ?_⟩) hHeld ?_ ?_
                              rotate_left
                              · intro w_ hSw
                                (try dsimp only at hSw)
                                go_simp
                                first | done | with_reducible rfl
                              rotate_left
                              · simp only [Act.put, List.setIfInBounds_toArray, List.set_cons_zero, List.set_cons_succ]
                                rfl
                              refine take_ (i := 15) (N := some 58) (v := ?_) (a' := ?_) #[true, true, true, true, true, true, true, true, true, true, true, true, true, true, true, true, false, false, false, false] rfl rfl (by kernel_rfl) (fun _ _ _ h_ => h_) (Or.inl ⟨by rfl, ?_⟩) hHeld ?_ ?_
                              rotate_left
                              · intro w_ hSw
                                (try dsimp only at hSw)
                                go_simp
                                first | done | with_reducible rfl
                              rotate_left
                              · simp only [Act.put, List.setIfInBounds_toArray, List.set_cons_zero, List.set_cons_succ]
                                rfl
                              refine take_ (i := 16) (N := some 59) (v := ?_) (a' := ?_) #[true, true, true, true, true, true, true, true, true, true, true, true, true, true, true, true, true, false, false, false] rfl rfl (by kernel_rfl) (fun _ _ _ h_ => h_) (Or.inl ⟨by rfl, ?_⟩) hHeld ?_ ?_
                              rotate_left
                              · intro w_ hSw
                                (try dsimp only at hSw)
                                go_simp
                                first | done | with_reducible rfl
                              rotate_left
                              · simp only [Act.put, List.setIfInBounds_toArray, List.set_cons_zero, List.set_cons_succ]
                                rfl
                              refine one_ (i := 17) (N := some 60) #[true, true, true, true, true, true, true, true, true, true, true, true, true, true, true, true, true, true, false, false] rfl rfl (by kernel_rfl) (by decide) (fun K_ hK_ => ?_)
                              go_simp
                              (go_at_call 74; refine ((BOTH.out q3).2 x1 mm en 0 _ HS2.out LS5.out.st).mono ?_; rintro e w6 ⟨rfl, st6, gw6⟩; have LS6 := Aside0.mk (plain_Steps.LSt.map LS5.out st6 gw6); have LR6 := Aside0.mk (LR5.out.trans (plain_Steps.LRel.of_map _ gw6)); have BX6 := Aside0.mk (tC.blk_map BX5.out LS5.out.st gw6); have GS6 := Aside0.mk (show  w6.cell? ⟨cx, 0, none⟩ = some (.pointer (some ⟨gb, 0, none⟩)) ∧ w6.cell? ⟨bx, 1, none⟩ = some (.slice (some ad1) R1.length c1) ∧ w6.cell? ad1 = some (.int .i64 x0) ∧ w6.cell? ⟨ad1.block, ad1.off + 1, none⟩ = some (.int .i64 x1) from ⟨(blk_cell LS6.out.c 0).trans rfl, (blk_cell BX6.out 1).trans rfl, pw_cell_below LS6.out.st.below HZ0.out, pw_cell_below LS6.out.st.below HZ1.out⟩); clear st6 gw6)
                              refine hK_.out _ _ (GS6.out) (fun hHeld => ?_)
                              clear hK_ K_
                              try (refine norm_ (by simp only [Act.put, List.setIfInBounds_toArray, List.set_cons_zero, List.set_cons_succ]; rfl) ?_)
                              refine take_ (i := 18) (N := some 61) (v := ?_) (a' := ?_) #[true, true, true, true, true, true, true, true, true, true, true, true, true, true, true, true, true, true, true, false] rfl rfl (by kernel_rfl) (fun _ _ _ h_ => h_) (Or.inl ⟨by rfl, ?_⟩) hHeld ?_ ?_
                              rotate_left
                              · intro w_ hSw
                                (try dsimp only at hSw)
                                go_simp
                                first | done | with_reducible rfl
                              rotate_left
                              · simp only [Act.put, List.setIfInBounds_toArray, List.set_cons_zero, List.set_cons_succ]
                                rfl
                              refine take_ (i := 19) (N := some 62) (v := ?_) (a' := ?_) #[true, true, true, true, true, true, true, true, true, true, true, true, true, true, true, true, true, true, true, true] rfl rfl (by kernel_rfl) (fun _ _ _ h_ => h_) (Or.inl ⟨by rfl, ?_⟩) hHeld ?_ ?_
                              rotate_left
                              · intro w_ hSw
                                (try dsimp only at hSw)
                                go_simp
                                first | done | with_reducible rfl
                              rotate_left
                              · simp only [Act.put, List.setIfInBounds_toArray, List.set_cons_zero, List.set_cons_succ]
                                rfl
                              refine done_ (by kernel_rfl) ?_
                              clear cab
                              have w8e := w7e.out
                              go_wp2
                              go_roundg (200 - (mm + 1)).toNat
                              case measure => exact MZ.out.2
                              case rel => exact ⟨mm + 1, q3, MZ.out.1, Nat.le_refl _, by first | rfl | rw [w8e], HM, LS6, LR6, BX6⟩
                            · rw [if_neg cb] at h
                              injection h with h
                              subst h
                              have cbb : (b2 == 0) = false := by rw [beq_eq_false_iff_ne]; exact cb
                              clear cb
                              go_wp2
                              refine start_ (n := 20) (S := (fun w' => w'.cell? ⟨cx, 0, none⟩ = some (.pointer (some ⟨gb, 0, none⟩)) ∧ w'.cell? ⟨bx, 1, none⟩ = some (.slice (some ad1) R1.length c1) ∧ w'.cell? ad1 = some (.int .i64 x0) ∧ w'.cell? ⟨ad1.block, ad1.off + 1, none⟩ = some (.int .i64 x1))) (ds := []) #[false, false, false, false, false, false, false, false, false, false, false, false, false, false, false, false, false, false, false, false] (by kernel_rfl) rfl rfl (⟨y0, y1, y2, y3⟩) (fun hHeld => ?_)
                              refine take_ (i := 0) (N := some 43) (v := ?_) (a' := ?_) #[true, false, false, false, false, false, false, false, false, false, false, false, false, false, false, false, false, false, false, false] rfl rfl (by kernel_rfl) (fun _ _ _ h_ => h_) (Or.inl ⟨by rfl, ?_⟩) hHeld ?_ ?_
                              rotate_left
                              · intro w_ hSw
                                (try dsimp only at hSw)
                                go_simp
                                first | done | with_reducible rfl
                              rotate_left
                              · simp only [Act.put, List.setIfInBounds_toArray, List.set_cons_zero, List.set_cons_succ]
                                rfl
                              refine take_ (i := 1) (N := some 44) (v := ?_) (a' := ?_) #[true, true, false, false, false, false, false, false, false, false, false, false, false, false, false, false, false, false, false, false] rfl rfl (by kernel_rfl) (fun _ _ _ h_ => h_) (Or.inl ⟨by rfl, ?_⟩) hHeld ?_ ?_
                              rotate_left
                              · intro w_ hSw
                                (try dsimp only at hSw)
                                go_simp
                                first | done | with_reducible rfl
                              rotate_left
                              · simp only [Act.put, List.setIfInBounds_toArray, List.set_cons_zero, List.set_cons_succ]
                                rfl
                              refine take_ (i := 2) (N := some 45) (v := ?_) (a' := ?_) #[true, true, true, false, false, false, false, false, false, false, false, false, false, false, false, false, false, false, false, false] rfl rfl (by kernel_rfl) (fun _ _ _ h_ => h_) (Or.inl ⟨by rfl, ?_⟩) hHeld ?_ ?_
                              rotate_left
                              · intro w_ hSw
                                (try dsimp only at hSw)
                                go_simp
                                first | done | with_reducible rfl
                              rotate_left
                              · simp only [Act.put, List.setIfInBounds_toArray, List.set_cons_zero, List.set_cons_succ]
                                rfl
                              refine take_ (i := 3) (N := some 46) (v := ?_) (a' := ?_) #[true, true, true, true, false, false, false, false, false, false, false, false, false, false, false, false, false, false, false, false] rfl rfl (by kernel_rfl) (fun _ _ _ h_ => h_) (Or.inl ⟨by rfl, ?_⟩) hHeld ?_ ?_
                              rotate_left
                              · intro w_ hSw
                                (try dsimp only at hSw)
                                go_simp
                                first | done | with_reducible rfl
                              rotate_left
                              · simp only [Act.put, List.setIfInBounds_toArray, List.set_cons_zero, List.set_cons_succ]
                                rfl
                              refine take_ (i := 4) (N := some 47) (v := ?_) (a' := ?_) #[true, true, true, true, true, false, false, false, false, false, false, false, false, false, false, false, false, false, false, false] rfl rfl (by kernel_rfl) (fun _ _ _ h_ => h_) (Or.inl ⟨by rfl, ?_⟩) hHeld ?_ ?_
                              rotate_left
                              · intro w_ hSw
                                (try dsimp only at hSw)
                                go_simp
                                first | done | with_reducible rfl
                              rotate_left
                              · simp only [Act.put, List.setIfInBounds_toArray, List.set_cons_zero, List.set_cons_succ]
                                rfl
                              refine take_ (i := 5) (N := some 48) (v := ?_) (a' := ?_) #[true, true, true, true, true, true, false, false, false, false, false, false, false, false, false, false, false, false, false, false] rfl rfl (by kernel_rfl) (fun _ _ _ h_ => h_) (Or.inl ⟨by rfl, ?_⟩) hHeld ?_ ?_
                              rotate_left
                              · intro w_ hSw
                                (try dsimp only at hSw)
                                go_simp
                                first | done | with_reducible rfl
                              rotate_left
                              · simp only [Act.put, List.setIfInBounds_toArray, List.set_cons_zero, List.set_cons_succ]
                                rfl
                              refine take_ (i := 6) (N := some 49) (v := ?_) (a' := ?_) #[true, true, true, true, true, true, true, false, false, false, false, false, false, false, false, false, false, false, false, false] rfl rfl (by kernel_rfl) (fun _ _ _ h_ => h_) (Or.inl ⟨by rfl, ?_⟩) hHeld ?_ ?_
                              rotate_left
                              · intro w_ hSw
                                (try dsimp only at hSw)
                                go_simp
                                first | done | with_reducible rfl
                              rotate_left
                              · simp only [Act.put, List.setIfInBounds_toArray, List.set_cons_zero, List.set_cons_succ]
                                rfl
                              refine one_ (i := 7) (N := some 50) #[true, true, true, true, true, true, true, true, false, false, false, false, false, false, false, false, false, false, false, false] rfl rfl (by kernel_rfl) (by decide) (fun K_ hK_ => ?_)
                              go_simp
                              (go_at_call 74; refine ((BOTH.out q3).2 x0 fr mm a _ HS.out LSd.out.st).mono ?_; rintro e w5 ⟨rfl, st5, gw5⟩; have LS5 := Aside0.mk (plain_Steps.LSt.map LSd.out st5 gw5); have LR5 := Aside0.mk (LRd.out.trans (plain_Steps.LRel.of_map _ gw5)); have BX5 := Aside0.mk (tC.blk_map BXd.out LSd.out.st gw5); have GS5 := Aside0.mk (show  w5.cell? ⟨cx, 0, none⟩ = some (.pointer (some ⟨gb, 0, none⟩)) ∧ w5.cell? ⟨bx, 1, none⟩ = some (.slice (some ad1) R1.length c1) ∧ w5.cell? ad1 = some (.int .i64 x0) ∧ w5.cell? ⟨ad1.block, ad1.off + 1, none⟩ = some (.int .i64 x1) from ⟨(blk_cell LS5.out.c 0).trans rfl, (blk_cell BX5.out 1).trans rfl, pw_cell_below LS5.out.st.below HZ0.out, pw_cell_below LS5.out.st.below HZ1.out⟩); clear st5 gw5)
                              refine hK_.out _ _ (GS5.out) (fun hHeld => ?_)
                              clear hK_ K_
                              try (refine norm_ (by simp only [Act.put, List.setIfInBounds_toArray, List.set_cons_zero, List.set_cons_succ]; rfl) ?_)
                              refine take_ (i := 8) (N := some 51) (v := ?_) (a' := ?_) #[true, true, true, true, true, true, true, true, true, false, false, false, false, false, false, false, false, false, false, false] rfl rfl (by kernel_rfl) (fun _ _ _ h_ => h_) (Or.inl ⟨by rfl, ?_⟩) hHeld ?_ ?_
                              rotate_left
                              · intro w_ hSw
                                (try dsimp only at hSw)
                                go_simp
                                first | done | with_reducible rfl
                              rotate_left
                              · simp only [Act.put, List.setIfInBounds_toArray, List.set_cons_zero, List.set_cons_succ]
                                rfl
                              refine take_ (i := 9) (N := some 52) (v := ?_) (a' := ?_) #[true, true, true, true, true, true, true, true, true, true, false, false, false, false, false, false, false, false, false, false] rfl rfl (by kernel_rfl) (fun _ _ _ h_ => h_) (Or.inl ⟨by rfl, ?_⟩) hHeld ?_ ?_
                              rotate_left
                              · intro w_ hSw
                                (try dsimp only at hSw)
                                go_simp
                                first | done | with_reducible rfl
                              rotate_left
                              · simp only [Act.put, List.setIfInBounds_toArray, List.set_cons_zero, List.set_cons_succ]
                                rfl
                              refine take_ (i := 10) (N := some 53) (v := ?_) (a' := ?_) #[true, true, true, true, true, true, true, true, true, true, true, false, false, false, false, false, false, false, false, false] rfl rfl (by kernel_rfl) (fun _ _ _ h_ => h_) (Or.inl ⟨by rfl, ?_⟩) hHeld ?_ ?_
                              rotate_left
                              · intro w_ hSw
                                (try dsimp only at hSw)
                                go_simp
                                first | done | with_reducible rfl
                              rotate_left
                              · simp only [Act.put, List.setIfInBounds_toArray, List.set_cons_zero, List.set_cons_succ]
                                rfl
                              refine take_ (i := 11) (N := some 54) (v := ?_) (a' := ?_) #[true, true, true, true, true, true, true, true, true, true, true, true, false, false, false, false, false, false, false, false] rfl rfl (by kernel_rfl) (fun _ _ _ h_ => h_) (Or.inl ⟨by rfl, ?_⟩) hHeld ?_ ?_
                              rotate_left
                              · intro w_ hSw
                                (try dsimp only at hSw)
                                go_simp
                                first | done | with_reducible rfl
                              rotate_left
                              · simp only [Act.put, List.setIfInBounds_toArray, List.set_cons_zero, List.set_cons_succ]
                                rfl
                              refine take_ (i := 12) (N := some 55) (v := ?_) (a' := ?_) #[true, true, true, true, true, true, true, true, true, true, true, true, true, false, false, false, false, false, false, false] rfl rfl (by kernel_rfl) (fun _ _ _ h_ => h_) (Or.inl ⟨by rfl, ?_⟩) hHeld ?_ ?_
                              rotate_left
                              · intro w_ hSw
                                (try dsimp only at hSw)
                                go_simp
                                first | done | with_reducible rfl
                              rotate_left
                              · simp only [Act.put, List.setIfInBounds_toArray, List.set_cons_zero, List.set_cons_succ]
                                rfl
                              refine take_ (i := 13) (N := some 56) (v := ?_) (a' := ?_) #[true, true, true, true, true, true, true, true, true, true, true, true, true, true, false, false, false, false, false, false] rfl rfl (by kernel_rfl) (fun _ _ _ h_ => h_) (Or.inl ⟨by rfl, ?_⟩) hHeld ?_ ?_
                              rotate_left
                              · intro w_ hSw
                                (try dsimp only at hSw)
                                go_simp
                                first | done | with_reducible rfl
                              rotate_left
                              · simp only [Act.put, List.setIfInBounds_toArray, List.set_cons_zero, List.set_cons_succ]
                                rfl
                              refine take_ (i := 14) (N := some 57) (v := ?_) (a' := ?_) #[true, true, true, true, true, true, true, true, true, true, true, true, true, true, true, false, false, false, false, false] rfl rfl (by kernel_rfl) (fun _ _ _ h_ => h_) (Or.inl ⟨by rfl, ?_⟩) hHeld ?_ ?_
                              rotate_left
                              · intro w_ hSw
                                (try dsimp only at hSw)
                                go_simp
                                first | done | with_reducible rfl
                              rotate_left
                              · simp only [Act.put, List.setIfInBounds_toArray, List.set_cons_zero, List.set_cons_succ]
                                rfl
                              refine take_ (i := 15) (N := some 58) (v := ?_) (a' := ?_) #[true, true, true, true, true, true, true, true, true, true, true, true, true, true, true, true, false, false, false, false] rfl rfl (by kernel_rfl) (fun _ _ _ h_ => h_) (Or.inl ⟨by rfl, ?_⟩) hHeld ?_ ?_
                              rotate_left
                              · intro w_ hSw
                                (try dsimp only at hSw)
                                go_simp
                                first | done | with_reducible rfl
                              rotate_left
                              · simp only [Act.put, List.setIfInBounds_toArray, List.set_cons_zero, List.set_cons_succ]
                                rfl
                              refine take_ (i := 16) (N := some 59) (v := ?_) (a' := ?_) #[true, true, true, true, true, true, true, true, true, true, true, true, true, true, true, true, true, false, false, false] rfl rfl (by kernel_rfl) (fun _ _ _ h_ => h_) (Or.inl ⟨by rfl, ?_⟩) hHeld ?_ ?_
                              rotate_left
                              · intro w_ hSw
                                (try dsimp only at hSw)
                                go_simp
                                first | done | with_reducible rfl
                              rotate_left
                              · simp only [Act.put, List.setIfInBounds_toArray, List.set_cons_zero, List.set_cons_succ]
                                rfl
                              refine one_ (i := 17) (N := some 60) #[true, true, true, true, true, true, true, true, true, true, true, true, true, true, true, true, true, true, false, false] rfl rfl (by kernel_rfl) (by decide) (fun K_ hK_ => ?_)
                              go_simp
                              (go_at_call 74; refine ((BOTH.out q3).2 x1 mm en b2 _ HS2.out LS5.out.st).mono ?_; rintro e w6 ⟨rfl, st6, gw6⟩; have LS6 := Aside0.mk (plain_Steps.LSt.map LS5.out st6 gw6); have LR6 := Aside0.mk (LR5.out.trans (plain_Steps.LRel.of_map _ gw6)); have BX6 := Aside0.mk (tC.blk_map BX5.out LS5.out.st gw6); have GS6 := Aside0.mk (show  w6.cell? ⟨cx, 0, none⟩ = some (.pointer (some ⟨gb, 0, none⟩)) ∧ w6.cell? ⟨bx, 1, none⟩ = some (.slice (some ad1) R1.length c1) ∧ w6.cell? ad1 = some (.int .i64 x0) ∧ w6.cell? ⟨ad1.block, ad1.off + 1, none⟩ = some (.int .i64 x1) from ⟨(blk_cell LS6.out.c 0).trans rfl, (blk_cell BX6.out 1).trans rfl, pw_cell_below LS6.out.st.below HZ0.out, pw_cell_below LS6.out.st.below HZ1.out⟩); clear st6 gw6)
                              refine hK_.out _ _ (GS6.out) (fun hHeld => ?_)
                              clear hK_ K_
                              try (refine norm_ (by simp only [Act.put, List.setIfInBounds_toArray, List.set_cons_zero, List.set_cons_succ]; rfl) ?_)
                              refine take_ (i := 18) (N := some 61) (v := ?_) (a' := ?_) #[true, true, true, true, true, true, true, true, true, true, true, true, true, true, true, true, true, true, true, false] rfl rfl (by kernel_rfl) (fun _ _ _ h_ => h_) (Or.inl ⟨by rfl, ?_⟩) hHeld ?_ ?_
                              rotate_left
                              · intro w_ hSw
                                (try dsimp only at hSw)
                                go_simp
                                first | done | with_reducible rfl
                              rotate_left
                              · simp only [Act.put, List.setIfInBounds_toArray, List.set_cons_zero, List.set_cons_succ]
                                rfl
                              refine take_ (i := 19) (N := some 62) (v := ?_) (a' := ?_) #[true, true, true, true, true, true, true, true, true, true, true, true, true, true, true, true, true, true, true, true] rfl rfl (by kernel_rfl) (fun _ _ _ h_ => h_) (Or.inl ⟨by rfl, ?_⟩) hHeld ?_ ?_
                              rotate_left
                              · intro w_ hSw
                                (try dsimp only at hSw)
                                go_simp
                                first | done | with_reducible rfl
                              rotate_left
                              · simp only [Act.put, List.setIfInBounds_toArray, List.set_cons_zero, List.set_cons_succ]
                                rfl
                              refine done_ (by kernel_rfl) ?_
                              clear cab cbb GS6 GS5 LS5 LR5 BX5 LSd LRd BXd GSd y0 y1 y2 y3
                              go_wp2
                              obtain ⟨xx0, hxx0⟩ : ∃ xx, IntKind.i64.wrap (x0 - K) = xx := ⟨_, rfl⟩
                              obtain ⟨xx1, hxx1⟩ : ∃ xx, IntKind.i64.wrap (x1 - K) = xx := ⟨_, rfl⟩
                              have HA2 := HA.out
                              have HB2 := HB.out
                              rw [← i64_w, hxx0] at HA2
                              rw [← i64_w, hxx1] at HB2
                              have HA3 := Aside0.mk HA2
                              have HB3 := Aside0.mk HB2
                              clear HA2 HB2
                              have LSd := Aside0.mk (LS6.out.more (w1 := w6.drew) (tC.grown_drew (World.grownBy.refl _ _) 1))
                              have LRd := Aside0.mk (LR6.out.trans (plain_Steps.LRel.of_none _ (w1 := w6.drew) (tC.grown_drew (World.grownBy.refl _ _) 1)))
                              have BXd := Aside0.mk (show w6.drew.heap[bx]? = some (.cells #[.int .i64 f0, .slice (some ad1) R1.length c1] 126 (0, 0)) from BX6.out)
                              have GSd := Aside0.mk (show w6.drew.cell? ⟨fx, 0, none⟩ = some (.func (.func 77) #[] #[.pointer (some ⟨gx, 0, none⟩), .pointer (some ⟨cx, 0, none⟩), .pointer (some ⟨lx, 0, none⟩), .pointer (some ⟨fx, 0, none⟩)]) ∧ w6.drew.cell? ⟨bx, 1, none⟩ = some (.slice (some ad1) R1.length c1) ∧ w6.drew.cell? ad1 = some (.int .i64 x0) ∧ w6.drew.cell? ⟨ad1.block, ad1.off + 1, none⟩ = some (.int .i64 x1) ∧ w6.drew.cell? ⟨gx, 0, none⟩ = some (.int .i64 K) from ⟨(blk_cell LSd.out.f 0).trans rfl, (blk_cell BXd.out 1).trans rfl, pw_cell_below LSd.out.st.below HZ0.out, pw_cell_below LSd.out.st.below HZ1.out, (blk_cell LSd.out.g 0).trans rfl⟩)
                              obtain ⟨y0, y1, y2, y3, y4⟩ := GSd.out
                              refine start_ (n := 11) (S := (fun w' => w'.cell? ⟨fx, 0, none⟩ = some (.func (.func 77) #[] #[.pointer (some ⟨gx, 0, none⟩), .pointer (some ⟨cx, 0, none⟩), .pointer (some ⟨lx, 0, none⟩), .pointer (some ⟨fx, 0, none⟩)]) ∧ w'.cell? ⟨bx, 1, none⟩ = some (.slice (some ad1) R1.length c1) ∧ w'.cell? ad1 = some (.int .i64 x0) ∧ w'.cell? ⟨ad1.block, ad1.off + 1, none⟩ = some (.int .i64 x1) ∧ w'.cell? ⟨gx, 0, none⟩ = some (.int .i64 K))) (ds := []) #[false, false, false, false, false, false, false, false, false, false, false] (by kernel_rfl) rfl rfl (⟨y0, y1, y2, y3, y4⟩) (fun hHeld => ?_)
                              refine take_ (i := 0) (N := some 65) (v := ?_) (a' := ?_) #[true, false, false, false, false, false, false, false, false, false, false] rfl rfl (by kernel_rfl) (fun _ _ _ h_ => h_) (Or.inl ⟨by rfl, ?_⟩) hHeld ?_ ?_
                              rotate_left
                              · intro w_ hSw
                                (try dsimp only at hSw)
                                go_simp
                                first | done | with_reducible rfl
                              rotate_left
                              · simp only [Act.put, List.setIfInBounds_toArray, List.set_cons_zero, List.set_cons_succ]
                                rfl
                              refine take_ (i := 1) (N := some 66) (v := ?_) (a' := ?_) #[true, true, false, false, false, false, false, false, false, false, false] rfl rfl (by kernel_rfl) (fun _ _ _ h_ => h_) (Or.inl ⟨by rfl, ?_⟩) hHeld ?_ ?_
                              rotate_left
                              · intro w_ hSw
                                (try dsimp only at hSw)
                                go_simp
                                first | done | with_reducible rfl
                              rotate_left
                              · simp only [Act.put, List.setIfInBounds_toArray, List.set_cons_zero, List.set_cons_succ]
                                rfl
                              refine take_ (i := 2) (N := some 67) (v := ?_) (a' := ?_) #[true, true, true, false, false, false, false, false, false, false, false] rfl rfl (by kernel_rfl) (fun _ _ _ h_ => h_) (Or.inl ⟨by rfl, ?_⟩) hHeld ?_ ?_
                              rotate_left
                              · intro w_ hSw
                                (try dsimp only at hSw)
                                go_simp
                                first | done | with_reducible rfl
                              rotate_left
                              · simp only [Act.put, List.setIfInBounds_toArray, List.set_cons_zero, List.set_cons_succ]
                                rfl
                              refine take_ (i := 3) (N := some 68) (v := ?_) (a' := ?_) #[true, true, true, true, false, false, false, false, false, false, false] rfl rfl (by kernel_rfl) (fun _ _ _ h_ => h_) (Or.inl ⟨by rfl, ?_⟩) hHeld ?_ ?_
                              rotate_left
                              · intro w_ hSw
                                (try dsimp only at hSw)
                                go_simp
                                first | done | with_reducible rfl
                              rotate_left
                              · simp only [Act.put, List.setIfInBounds_toArray, List.set_cons_zero, List.set_cons_succ]
                                rfl
                              refine take_ (i := 4) (N := some 69) (v := ?_) (a' := ?_) #[true, true, true, true, true, false, false, false, false, false, false] rfl rfl (by kernel_rfl) (fun _ _ _ h_ => h_) (Or.inl ⟨by rfl, ?_⟩) hHeld ?_ ?_
                              rotate_left
                              · intro w_ hSw
                                (try dsimp only at hSw)
                                go_simp
                                first | done | with_reducible rfl
                              rotate_left
                              · simp only [Act.put, List.setIfInBounds_toArray, List.set_cons_zero, List.set_cons_succ]
                                rfl
                              refine take_ (i := 5) (N := some 70) (v := ?_) (a' := ?_) #[true, true, true, true, true, true, false, false, false, false, false] rfl rfl (by kernel_rfl) (fun _ _ _ h_ => h_) (Or.inl ⟨by rfl, ?_⟩) hHeld ?_ ?_
                              rotate_left
                              · intro w_ hSw
                                (try dsimp only at hSw)
                                go_simp
                                first | done | with_reducible rfl
                              rotate_left
                              · simp only [Act.put, List.setIfInBounds_toArray, List.set_cons_zero, List.set_cons_succ]
                                rfl
                              refine take_ (i := 6) (N := some 71) (v := ?_) (a' := ?_) #[true, true, true, true, true, true, true, false, false, false, false] rfl rfl (by kernel_rfl) (fun _ _ _ h_ => h_) (Or.inl ⟨by rfl, ?_⟩) hHeld ?_ ?_
                              rotate_left
                              · intro w_ hSw
                                (try dsimp only at hSw)
                                go_simp
                                first | done | with_reducible rfl
                              rotate_left
                              · simp only [Act.put, List.setIfInBounds_toArray, List.set_cons_zero, List.set_cons_succ]
                                rfl
                              refine take_ (i := 7) (N := some 72) (v := ?_) (a' := ?_) #[true, true, true, true, true, true, true, true, false, false, false] rfl rfl (by kernel_rfl) (fun _ _ _ h_ => h_) (Or.inl ⟨by rfl, ?_⟩) hHeld ?_ ?_
                              rotate_left
                              · intro w_ hSw
                                (try dsimp only at hSw)
                                go_simp
                                first | done | with_reducible rfl
                              rotate_left
                              · simp only [Act.put, List.setIfInBounds_toArray, List.set_cons_zero, List.set_cons_succ]
                                rfl
                              refine take_ (i := 8) (N := some 73) (v := ?_) (a' := ?_) #[true, true, true, true, true, true, true, true, true, false, false] rfl rfl (by kernel_rfl) (fun _ _ _ h_ => h_) (Or.inl ⟨by rfl, ?_⟩) hHeld ?_ ?_
                              rotate_left
                              · intro w_ hSw
                                (try dsimp only at hSw)
                                go_simp
                                first | done | with_reducible rfl
                              rotate_left
                              · simp only [Act.put, List.setIfInBounds_toArray, List.set_cons_zero, List.set_cons_succ]
                                rfl
                              refine take_ (i := 9) (N := some 74) (v := ?_) (a' := ?_) #[true, true, true, true, true, true, true, true, true, true, false] rfl rfl (by kernel_rfl) (fun _ _ _ h_ => h_) (Or.inl ⟨by rfl, ?_⟩) hHeld ?_ ?_
                              rotate_left
                              · intro w_ hSw
                                (try dsimp only at hSw)
                                go_simp
                                first | done | with_reducible rfl
                              rotate_left
                              · simp only [Act.put, List.setIfInBounds_toArray, List.set_cons_zero, List.set_cons_succ]
                                rfl
                              refine one_ (i := 10) (N := some 75) #[true, true, true, true, true, true, true, true, true, true, true] rfl rfl (by kernel_rfl) (by decide) (fun K_ hK_ => ?_)
                              go_simp
                              (go_at_call 77; refine ((IH'.out q1 M.out.1) xx0 fr mm (acc ++ [(i : Int)]) a2 _ _ HA3.out LSd.out).mono ?_; rintro e w7 ⟨v7, rfl, ls7, lr7⟩; obtain ⟨A7, c7_, rfl⟩ := Kd.R_slice ls7.row; have LS7 := Aside0.mk ls7; have LR7 := Aside0.mk (LRd.out.trans lr7); have BX7 := Aside0.mk (plain_Steps.LRel.blk lr7 LSd.out BXd.out); have GS7 := Aside0.mk (show w7.cell? ⟨fx, 0, none⟩ = some (.func (.func 77) #[] #[.pointer (some ⟨gx, 0, none⟩), .pointer (some ⟨cx, 0, none⟩), .pointer (some ⟨lx, 0, none⟩), .pointer (some ⟨fx, 0, none⟩)]) ∧ w7.cell? ⟨bx, 1, none⟩ = some (.slice (some ad1) R1.length c1) ∧ w7.cell? ad1 = some (.int .i64 x0) ∧ w7.cell? ⟨ad1.block, ad1.off + 1, none⟩ = some (.int .i64 x1) ∧ w7.cell? ⟨gx, 0, none⟩ = some (.int .i64 K) from ⟨(blk_cell LS7.out.f 0).trans rfl, (blk_cell BX7.out 1).trans rfl, pw_cell_below LS7.out.st.below HZ0.out, pw_cell_below LS7.out.st.below HZ1.out, (blk_cell LS7.out.g 0).trans rfl⟩); clear ls7 lr7)
                              refine hK_.out _ _ (GS7.out) (fun hHeld => ?_)
                              clear hK_ K_
                              try (refine norm_ (by simp only [Act.put, List.setIfInBounds_toArray, List.set_cons_zero, List.set_cons_succ]; rfl) ?_)
                              refine done_ (by kernel_rfl) ?_
                              clear y0 y1 y2 y3 y4 GSd LSd LRd BXd LS6 LR6 BX6 hxx0
                              go_wp2
                              have LSd := Aside0.mk (LS7.out.more (w1 := w7.drew) (tC.grown_drew (World.grownBy.refl _ _) 1))
                              have LRd := Aside0.mk (LR7.out.trans (plain_Steps.LRel.of_none _ (w1 := w7.drew) (tC.grown_drew (World.grownBy.refl _ _) 1)))
                              have BXd := Aside0.mk (show w7.drew.heap[bx]? = some (.cells #[.int .i64 f0, .slice (some ad1) R1.length c1] 126 (0, 0)) from BX7.out)
                              have GSd := Aside0.mk (show w7.drew.cell? ⟨fx, 0, none⟩ = some (.func (.func 77) #[] #[.pointer (some ⟨gx, 0, none⟩), .pointer (some ⟨cx, 0, none⟩), .pointer (some ⟨lx, 0, none⟩), .pointer (some ⟨fx, 0, none⟩)]) ∧ w7.drew.cell? ⟨bx, 1, none⟩ = some (.slice (some ad1) R1.length c1) ∧ w7.drew.cell? ad1 = some (.int .i64 x0) ∧ w7.drew.cell? ⟨ad1.block, ad1.off + 1, none⟩ = some (.int .i64 x1) ∧ w7.drew.cell? ⟨gx, 0, none⟩ = some (.int .i64 K) from ⟨(blk_cell LSd.out.f 0).trans rfl, (blk_cell BXd.out 1).trans rfl, pw_cell_below LSd.out.st.below HZ0.out, pw_cell_below LSd.out.st.below HZ1.out, (blk_cell LSd.out.g 0).trans rfl⟩)
                              obtain ⟨y0, y1, y2, y3, y4⟩ := GSd.out
                              refine start_ (n := 11) (S := (fun w' => w'.cell? ⟨fx, 0, none⟩ = some (.func (.func 77) #[] #[.pointer (some ⟨gx, 0, none⟩), .pointer (some ⟨cx, 0, none⟩), .pointer (some ⟨lx, 0, none⟩), .pointer (some ⟨fx, 0, none⟩)]) ∧ w'.cell? ⟨bx, 1, none⟩ = some (.slice (some ad1) R1.length c1) ∧ w'.cell? ad1 = some (.int .i64 x0) ∧ w'.cell? ⟨ad1.block, ad1.off + 1, none⟩ = some (.int .i64 x1) ∧ w'.cell? ⟨gx, 0, none⟩ = some (.int .i64 K))) (ds := []) #[false, false, false, false, false, false, false, false, false, false, false] (by kernel_rfl) rfl rfl (⟨y0, y1, y2, y3, y4⟩) (fun hHeld => ?_)
                              refine take_ (i := 0) (N := some 76) (v := ?_) (a' := ?_) #[true, false, false, false, false, false, false, false, false, false, false] rfl rfl (by kernel_rfl) (fun _ _ _ h_ => h_) (Or.inl ⟨by rfl, ?_⟩) hHeld ?_ ?_
                              rotate_left
                              · intro w_ hSw
                                (try dsimp only at hSw)
                                go_simp
                                first | done | with_reducible rfl
                              rotate_left
                              · simp only [Act.put, List.setIfInBounds_toArray, List.set_cons_zero, List.set_cons_succ]
                                rfl
                              refine take_ (i := 1) (N := some 77) (v := ?_) (a' := ?_) #[true, true, false, false, false, false, false, false, false, false, false] rfl rfl (by kernel_rfl) (fun _ _ _ h_ => h_) (Or.inl ⟨by rfl, ?_⟩) hHeld ?_ ?_
                              rotate_left
                              · intro w_ hSw
                                (try dsimp only at hSw)
                                go_simp
                                first | done | with_reducible rfl
                              rotate_left
                              · simp only [Act.put, List.setIfInBounds_toArray, List.set_cons_zero, List.set_cons_succ]
                                rfl
                              refine take_ (i := 2) (N := some 78) (v := ?_) (a' := ?_) #[true, true, true, false, false, false, false, false, false, false, false] rfl rfl (by kernel_rfl) (fun _ _ _ h_ => h_) (Or.inl ⟨by rfl, ?_⟩) hHeld ?_ ?_
                              rotate_left
                              · intro w_ hSw
                                (try dsimp only at hSw)
                                go_simp
                                first | done | with_reducible rfl
                              rotate_left
                              · simp only [Act.put, List.setIfInBounds_toArray, List.set_cons_zero, List.set_cons_succ]
                                rfl
                              refine take_ (i := 3) (N := some 79) (v := ?_) (a' := ?_) #[true, true, true, true, false, false, false, false, false, false, false] rfl rfl (by kernel_rfl) (fun _ _ _ h_ => h_) (Or.inl ⟨by rfl, ?_⟩) hHeld ?_ ?_
                              rotate_left
                              · intro w_ hSw
                                (try dsimp only at hSw)
                                go_simp
                                first | done | with_reducible rfl
                              rotate_left
                              · simp only [Act.put, List.setIfInBounds_toArray, List.set_cons_zero, List.set_cons_succ]
                                rfl
                              refine take_ (i := 4) (N := some 80) (v := ?_) (a' := ?_) #[true, true, true, true, true, false, false, false, false, false, false] rfl rfl (by kernel_rfl) (fun _ _ _ h_ => h_) (Or.inl ⟨by rfl, ?_⟩) hHeld ?_ ?_
                              rotate_left
                              · intro w_ hSw
                                (try dsimp only at hSw)
                                go_simp
                                first | done | with_reducible rfl
                              rotate_left
                              · simp only [Act.put, List.setIfInBounds_toArray, List.set_cons_zero, List.set_cons_succ]
                                rfl
                              refine take_ (i := 5) (N := some 81) (v := ?_) (a' := ?_) #[true, true, true, true, true, true, false, false, false, false, false] rfl rfl (by kernel_rfl) (fun _ _ _ h_ => h_) (Or.inl ⟨by rfl, ?_⟩) hHeld ?_ ?_
                              rotate_left
                              · intro w_ hSw
                                (try dsimp only at hSw)
                                go_simp
                                first | done | with_reducible rfl
                              rotate_left
                              · simp only [Act.put, List.setIfInBounds_toArray, List.set_cons_zero, List.set_cons_succ]
                                rfl
                              refine take_ (i := 6) (N := some 82) (v := ?_) (a' := ?_) #[true, true, true, true, true, true, true, false, false, false, false] rfl rfl (by kernel_rfl) (fun _ _ _ h_ => h_) (Or.inl ⟨by rfl, ?_⟩) hHeld ?_ ?_
                              rotate_left
                              · intro w_ hSw
                                (try dsimp only at hSw)
                                go_simp
                                first | done | with_reducible rfl
                              rotate_left
                              · simp only [Act.put, List.setIfInBounds_toArray, List.set_cons_zero, List.set_cons_succ]
                                rfl
                              refine take_ (i := 7) (N := some 83) (v := ?_) (a' := ?_) #[true, true, true, true, true, true, true, true, false, false, false] rfl rfl (by kernel_rfl) (fun _ _ _ h_ => h_) (Or.inl ⟨by rfl, ?_⟩) hHeld ?_ ?_
                              rotate_left
                              · intro w_ hSw
                                (try dsimp only at hSw)
                                go_simp
                                first | done | with_reducible rfl
                              rotate_left
                              · simp only [Act.put, List.setIfInBounds_toArray, List.set_cons_zero, List.set_cons_succ]
                                rfl
                              refine take_ (i := 8) (N := some 84) (v := ?_) (a' := ?_) #[true, true, true, true, true, true, true, true, true, false, false] rfl rfl (by kernel_rfl) (fun _ _ _ h_ => h_) (Or.inl ⟨by rfl, ?_⟩) hHeld ?_ ?_
                              rotate_left
                              · intro w_ hSw
                                (try dsimp only at hSw)
                                go_simp
                                first | done | with_reducible rfl
                              rotate_left
                              · simp only [Act.put, List.setIfInBounds_toArray, List.set_cons_zero, List.set_cons_succ]
                                rfl
                              refine take_ (i := 9) (N := some 85) (v := ?_) (a' := ?_) #[true, true, true, true, true, true, true, true, true, true, false] rfl rfl (by kernel_rfl) (fun _ _ _ h_ => h_) (Or.inl ⟨by rfl, ?_⟩) hHeld ?_ ?_
                              rotate_left
                              · intro w_ hSw
                                (try dsimp only at hSw)
                                go_simp
                                first | done | with_reducible rfl
                              rotate_left
                              · simp only [Act.put, List.setIfInBounds_toArray, List.set_cons_zero, List.set_cons_succ]
                                rfl
                              refine one_ (i := 10) (N := some 86) #[true, true, true, true, true, true, true, true, true, true, true] rfl rfl (by kernel_rfl) (by decide) (fun K_ hK_ => ?_)
                              go_simp
                              (go_at_call 77; refine ((IH'.out q1 M.out.1) xx1 mm en a2 acc' _ _ HB3.out LSd.out).mono ?_; rintro e w8 ⟨v8, rfl, ls8, lr8⟩; obtain ⟨A8, c8_, rfl⟩ := Kd.R_slice ls8.row; have LS8 := Aside0.mk ls8; have LR8 := Aside0.mk (LRd.out.trans lr8); have BX8 := Aside0.mk (plain_Steps.LRel.blk lr8 LSd.out BXd.out); have GS8 := Aside0.mk (show w8.cell? ⟨fx, 0, none⟩ = some (.func (.func 77) #[] #[.pointer (some ⟨gx, 0, none⟩), .pointer (some ⟨cx, 0, none⟩), .pointer (some ⟨lx, 0, none⟩), .pointer (some ⟨fx, 0, none⟩)]) ∧ w8.cell? ⟨bx, 1, none⟩ = some (.slice (some ad1) R1.length c1) ∧ w8.cell? ad1 = some (.int .i64 x0) ∧ w8.cell? ⟨ad1.block, ad1.off + 1, none⟩ = some (.int .i64 x1) ∧ w8.cell? ⟨gx, 0, none⟩ = some (.int .i64 K) from ⟨(blk_cell LS8.out.f 0).trans rfl, (blk_cell BX8.out 1).trans rfl, pw_cell_below LS8.out.st.below HZ0.out, pw_cell_below LS8.out.st.below HZ1.out, (blk_cell LS8.out.g 0).trans rfl⟩); clear ls8 lr8)
                              refine hK_.out _ _ (GS8.out) (fun hHeld => ?_)
                              clear hK_ K_
                              try (refine norm_ (by simp only [Act.put, List.setIfInBounds_toArray, List.set_cons_zero, List.set_cons_succ]; rfl) ?_)
                              refine done_ (by kernel_rfl) ?_
                              clear y0 y1 y2 y3 y4 GSd LSd LRd BXd
                              go_wp2
                              exact bodyPost_ret (plain_Steps.results0 rfl _ _) rfl ⟨_, rfl, LS8.out, LR8.out⟩
                        · rw [if_neg hgd] at h; cases h
                  · rw [if_neg c8] at h
                    injection h with h
                    subst h
                    have c8b : ((R1.length : Int) == 2) = false := by rw [beq_eq_false_iff_ne]; omega
                    clear c8
                    go_wp2_with (first
                      | (go_at_call 78; refine ((BOTH.out q1).1 (i : Int) 0 fr en n _ HN.out STa.out.st).mono ?_; rintro e w2 ⟨rfl, ST2', GW2'⟩; have ST2 := Aside0.mk (plain_Steps.LSt.map STa.out ST2' GW2'); have RL2 := Aside0.mk (RLa.out.trans (plain_Steps.LRel.of_map _ GW2')); have BX2 := Aside0.mk (tC.blk_map BX.out STa.out.st GW2'); have hcl2 : w2.cell? ⟨lx, 0, none⟩ = some (.slice Av acc.length cv) := (blk_cell ST2.out.l 0).trans rfl; clear ST2' GW2' hcc hcca hy0 hy1)
                      | ((with_reducible refine gate_builtin (b := .append) (xs := #[.tmp 33, .tmp 35]) rfl ?_); at_builtin; go_loud (refine Kd.R_append (Kd.int .i64) (w0 := w0) w0.heap.size rfl (.tmp 33) (.tmp 35) 23 3 (.int .i64 0) 8 rfl Try.underlying23 plain_Steps.info rfl (by decide) (by omega) (.slice Av acc.length cv) acc (i : Int) [.int .i64 i] (plain_Steps.B.ok ⟨gb, mb, gx, cx, lx, fx⟩) (fun _ => False) rfl rfl ?aP (fun _ hk => hk.elim) ?aF ?aO ?aB ?aS ?aL ?_); (case aP => exact rfl); (case aF => exact ST2.out.fresh); (case aO => exact ST2.out.row); (case aB => exact ST2.out.st.below); (case aS => exact below_size ST2.out.st.below); (case aL => have := C7.out; omega); intro v1 w1 hO hB hG hat; have hl1 := blk_grown ST2.out.l hG (ST2.out.apart (fun hk => hk.2.2.2.2.1 rfl)); have PS := Aside0.mk (ST2.out.push G3.out hG hO hB hat); have BX3 := Aside0.mk (blk_far (p := ⟨lx, 0, none⟩) (blk_grown BX2.out hG (tC.ne_own OWN.out)) (Nat.ne_of_gt LXL.out) v1); obtain ⟨Au, cu, hv1⟩ := Kd.R_slice hO; rw [List.length_append, List.length_singleton] at hv1; subst hv1; have hcl1 : w1.cell? ⟨lx, 0, none⟩ = some (.slice Av acc.length cv) := (blk_cell hl1 0).trans rfl; have hfl1 := blk_frozen hl1 0; have hb1 : w1.cell? ⟨wr.heap.size, 1, none⟩ = some (.slice A1 R1.length c1) := (blk_cell (blk_grown BX2.out hG (tC.ne_own OWN.out)) 1).trans rfl; have hne1 : ¬ wr.heap.size = lx := Nat.ne_of_gt LXL.out; have hne2 : ¬ lx = wr.heap.size := Nat.ne_of_lt LXL.out; clear hl1 hO hB hG hat hcl2))
                    exact bodyPost_ret (plain_Steps.results0 rfl _ _) rfl ⟨_, rfl, PS.out.1, RL2.out.trans PS.out.2⟩
                · rw [if_neg c7] at h; cases h
            · rw [if_neg c5] at h
              have c5b : (f0 != name) = true := bne_iff_ne.2 c5
              have H := Aside0.mk h
              clear h c5
              go_wp2
              go_roundg (rules.length - (i + 1))
              case measure => exact M.out.2.2.2
              case rel => exact ⟨i + 1, q1, M.out.2.1, M.out.2.2.1, Nat.le_refl _, by first | rfl | (rw [hi64]; rfl), H, ⟨ST.out.more (World.grownBy_alloc _ _ none)⟩, ⟨RL.out.trans (plain_Steps.LRel.of_none _ (World.grownBy_alloc _ _ none))⟩⟩
          · have hltz : ¬ (i : Int) < (rules.length : Int) := by omega
            rw [if_neg hltz] at h
            have hltb : decide ((i : Int) < (rules.length : Int)) = false := decide_eq_false hltz
            injection h with h
            subst h
            have ST' := Aside0.mk ST.out
            clear hq hi hgg hlt H
            go_wp2
            exact bodyPost_end (plain_Steps.results0 rfl _ _) rfl ⟨_, rfl, ST.out, RL.out⟩
    · rw [if_neg hg] at h; cases h
theorem plain_Steps.all {w0 : World} {b : plain_Steps.B} {K N S0 : Int} {A AW : Option Addr} {cR cW : Nat} {rules : List S126} {ws : List Int} (HR0 : Kd.C k126 w0 A rules.length rules) (HW0 : Kd.C (Kd.int .i64) w0 AW ws.length ws) (g1 : w0.heap.size ≤ b.gb) (g2 : w0.heap.size ≤ b.mb) (g3 : w0.heap.size ≤ b.lx) (q : Nat) : plain_Steps.LaySpec w0 b K N S0 A AW cR cW rules ws q := by
  induction q using Nat.strongRecOn with
  | ind q ih => exact plain_Steps.lay_step HR0 HW0 g1 g2 g3 q ih
def plain_Steps.f (k : Nat) (a0_0 : Int) (a0_1 : Int) (a0_2 : Int) (l0_3 : List S126) (l1 : List Int) : Option (List Int × Int) :=
  (table_Names.f k a0_0 a0_1 a0_2 l0_3 l1).bind fun t => if t.2 = 0 then ((plain_plain.f a0_0 a0_1 a0_2 l0_3).bind fun p => if p = true then ((table_Count.sign k a0_0 l0_3 l1 (wrap64 (a0_0 + a0_2)) 0 (l1.length : Int)).bind fun n => if n = 0 then some ([], 5) else ((plain_Steps.lay k a0_0 l0_3 l1 a0_2 0 (l1.length : Int) []).bind fun l => some (l, 0))) else some ([], 3)) else some ([], t.2)
theorem plain_Steps.mono : ∀ a0 a1 a2 a3 a4 k, LeO (plain_Steps.f k a0 a1 a2 a3 a4) (plain_Steps.f (k + 1) a0 a1 a2 a3 a4) := by
  intro a0 a1 a2 a3 a4 k
  unfold plain_Steps.f
  refine LeO.bind (table_Names.mono _ _ _ _ _ _) (fun t => ?_)
  split
  · refine LeO.bind (LeO.refl _) (fun p => ?_)
    split
    · refine LeO.bind ((table_Count.mono _ _ _ _).2.2.1 _ _ _) (fun n => ?_)
      split
      · exact LeO.refl _
      · exact LeO.bind ((plain_Steps.mono_all _ _ _ _).1 _ _ _ _) (fun _ => LeO.refl _)
    · exact LeO.refl _
  · exact LeO.refl _
set_option maxHeartbeats 8000000 in
set_option maxRecDepth 100000 in
theorem plain_Steps.calls (k : Nat) (a0_0 : Int) (a0_1 : Int) (a0_2 : Int) (A0_3 : Option Addr) (c0_3 : Nat) (l0_3 : List (S126)) (A1 : Option Addr) (c1 : Nat) (l1 : List Int) (r1 : List Int) (r2 : Int) (w : World) (hr0_3 : Kd.C k126 w A0_3 l0_3.length l0_3) (hc0_3 : l0_3.length ≤ c0_3) (hr1 : Kd.C (Kd.int .i64) w A1 l1.length l1) (hc1 : l1.length ≤ c1) (h : plain_Steps.f k a0_0 a0_1 a0_2 l0_3 l1 = some (r1, r2)) :
    Calls Try.prog 31 #[.agg #[.int .i64 a0_0, .int .i64 a0_1, .int .i64 a0_2, .slice A0_3 l0_3.length c0_3], .slice A1 l1.length c1] w fun e w' => ∃ v0_ : Value, e = .returned (.tuple #[v0_, .int .i64 r2]) ∧ Kd.R (Kd.int .i64) 3 w' w.heap.size (fun _ => True) v0_ r1 ∧ Below w.heap.size w w' := by
  unfold plain_Steps.f at h
  replace h := Option.bind_eq_some_iff.mp h
  obtain ⟨⟨t1, t2⟩, hw, h⟩ := h
  have HR0 := Aside0.mk hr0_3
  have HR1 := Aside0.mk hr1
  have HC0 := Aside0.mk hc0_3
  have HC1 := Aside0.mk hc1
  have HWR := Aside0.mk hw
  clear hr0_3 hr1 hc0_3 hc1 hw
  obtain ⟨cg, hcg⟩ : ∃ cg : Array Value, cg = #[.int .i64 a0_0, .int .i64 a0_1, .int .i64 a0_2, .slice A0_3 l0_3.length c0_3] := ⟨_, rfl⟩
  have CG := Aside0.mk hcg
  clear hcg
  by_cases c : t2 = 0
  · subst c
    replace h : ((plain_plain.f a0_0 a0_1 a0_2 l0_3).bind fun p => if p = true then ((table_Count.sign k a0_0 l0_3 l1 (wrap64 (a0_0 + a0_2)) 0 (l1.length : Int)).bind fun n => if n = 0 then some ([], 5) else ((plain_Steps.lay k a0_0 l0_3 l1 a0_2 0 (l1.length : Int) []).bind fun l => some (l, 0))) else some ([], 3)) = some (r1, r2) := h
    replace h := Option.bind_eq_some_iff.mp h
    obtain ⟨p, hp, h⟩ := h
    have HP := Aside0.mk hp
    clear hp
    cases p with
    | false =>
      injection h with h
      injection h with h1 h2
      subst h1 h2
      go_enter Try.func31, Try.ntmps31
      go_wp2_with (first
        | (go_at_call 75; refine (table_Names.calls k a0_0 a0_1 a0_2 A0_3 c0_3 l0_3 A1 c1 l1 t1 0 _ (Kd.C_alloc HR0.out _) HC0.out (Kd.C_alloc HR1.out _) HC1.out HWR.out).mono ?_; rintro e w1 ⟨rfl, hb⟩; have HB1 := Aside0.mk (below_step (below_alloc (Below.refl _ w) _) hb); have BK1 := Aside0.mk (blk_below (heap_alloc_new w _) hb); clear hb; have k0 : w1.cell? ⟨w.heap.size, 0, none⟩ = some (.int .i64 a0_0) := (blk_cell BK1.out 0).trans rfl; have k1 : w1.cell? ⟨w.heap.size, 1, none⟩ = some (.int .i64 a0_1) := (blk_cell BK1.out 1).trans rfl; have k2 : w1.cell? ⟨w.heap.size, 2, none⟩ = some (.int .i64 a0_2) := (blk_cell BK1.out 2).trans rfl; have k3 : w1.cell? ⟨w.heap.size, 3, none⟩ = some (.slice A0_3 l0_3.length c0_3) := (blk_cell BK1.out 3).trans rfl)
        | (go_at_call 76; refine (plain_plain.calls a0_0 a0_1 a0_2 A0_3 c0_3 l0_3 false _ (Kd.C_below HR0.out HB1.out) HC0.out HP.out).mono ?_; rintro e w2 ⟨rfl, hb2⟩; have HB2 := Aside0.mk (below_step HB1.out hb2); clear hb2))
      go_ret2
      exact ⟨_, rfl, Kd.R_nil _ _ _ _ _, HB2.out⟩
    | true =>
      rw [if_pos rfl] at h
      replace h := Option.bind_eq_some_iff.mp h
      obtain ⟨n, hn, h⟩ := h
      obtain ⟨xx, hxx⟩ : ∃ xx, wrap64 (a0_0 + a0_2) = xx := ⟨_, rfl⟩
      rw [hxx] at hn
      have HN := Aside0.mk hn
      clear hn
      by_cases c9 : n = 0
      · subst c9
        rw [if_pos rfl] at h
        injection h with h
        injection h with h1 h2
        subst h1 h2
        go_enter Try.func31, Try.ntmps31
        go_wp2_with (first
          | (go_at_call 75; refine (table_Names.calls k a0_0 a0_1 a0_2 A0_3 c0_3 l0_3 A1 c1 l1 t1 0 _ (Kd.C_alloc HR0.out _) HC0.out (Kd.C_alloc HR1.out _) HC1.out HWR.out).mono ?_; rintro e w1 ⟨rfl, hb⟩; have HB1 := Aside0.mk (below_step (below_alloc (Below.refl _ w) _) hb); have BK1 := Aside0.mk (blk_below (heap_alloc_new w _) hb); clear hb; have k0 : w1.cell? ⟨w.heap.size, 0, none⟩ = some (.int .i64 a0_0) := (blk_cell BK1.out 0).trans rfl; have k1 : w1.cell? ⟨w.heap.size, 1, none⟩ = some (.int .i64 a0_1) := (blk_cell BK1.out 1).trans rfl; have k2 : w1.cell? ⟨w.heap.size, 2, none⟩ = some (.int .i64 a0_2) := (blk_cell BK1.out 2).trans rfl; have k3 : w1.cell? ⟨w.heap.size, 3, none⟩ = some (.slice A0_3 l0_3.length c0_3) := (blk_cell BK1.out 3).trans rfl)
          | (go_at_call 76; refine (plain_plain.calls a0_0 a0_1 a0_2 A0_3 c0_3 l0_3 true _ (Kd.C_below HR0.out HB1.out) HC0.out HP.out).mono ?_; rintro e w2 ⟨rfl, hb2⟩; have HB2 := Aside0.mk (below_step HB1.out hb2); have BK2 := Aside0.mk (blk_below BK1.out hb2); clear hb2 k0 k1 k2 k3 BK1 HB1; have k0 : w2.cell? ⟨w.heap.size, 0, none⟩ = some (.int .i64 a0_0) := (blk_cell BK2.out 0).trans rfl; have k1 : w2.cell? ⟨w.heap.size, 1, none⟩ = some (.int .i64 a0_1) := (blk_cell BK2.out 1).trans rfl; have k2 : w2.cell? ⟨w.heap.size, 2, none⟩ = some (.int .i64 a0_2) := (blk_cell BK2.out 2).trans rfl; have k3 : w2.cell? ⟨w.heap.size, 3, none⟩ = some (.slice A0_3 l0_3.length c0_3) := (blk_cell BK2.out 3).trans rfl)
          | (go_at_call 73; refine (tC.new _).mono ?_; rintro e w3 ⟨gb, mb, rfl, g1, g2, st, gn⟩; have ST := Aside0.mk st; have GN := Aside0.mk gn; have G12 := Aside0.mk (And.intro g1 g2); have BK3 := Aside0.mk (blk_grown BK2.out gn (by simp)); clear g1 g2 st gn k0 k1 k2 k3 BK2; have q0 := fun o => Lib.cell?_alloc_some o (show w3.cell? ⟨w.heap.size, 0, none⟩ = some (.int .i64 a0_0) from (blk_cell BK3.out 0).trans rfl); have q2 := fun o => Lib.cell?_alloc_some o (show w3.cell? ⟨w.heap.size, 2, none⟩ = some (.int .i64 a0_2) from (blk_cell BK3.out 2).trans rfl))
          | (go_at_call 74; refine ((tC.both (Kd.C_below HR0.out HB2.out) (Kd.C_below HR1.out HB2.out) G12.out.1 G12.out.2 k).2 xx 0 (l1.length : Int) 0 _ HN.out (ST.out.kept (World.grownBy_alloc w3 (Obj.cells #[.pointer (some ⟨gb, 0, none⟩)] 120) none))).mono ?_; rintro e w4 ⟨rfl, st4, gw4⟩; have STa := Aside0.mk (ST.out.kept (World.grownBy_alloc w3 (Obj.cells #[.pointer (some ⟨gb, 0, none⟩)] 120) none)); have ST4 := Aside0.mk st4; have BC4 := Aside0.mk (tC.blk_map (heap_alloc_new w3 (Obj.cells #[.pointer (some ⟨gb, 0, none⟩)] 120)) STa.out gw4); have BK4 := Aside0.mk (tC.blk_map (blk_alloc BK3.out (Obj.cells #[.pointer (some ⟨gb, 0, none⟩)] 120)) STa.out gw4); have HB4 := Aside0.mk (below_step HB2.out ST4.out.below); have SZ4 := Aside0.mk (And.intro (blk_lt BK3.out) (below_size ST.out.below)); clear st4 gw4 q0 q2 STa ST BK3 GN))
        go_ret2
        exact ⟨_, rfl, Kd.R_nil _ _ _ _ _, HB4.out⟩
      · rw [if_neg c9] at h
        replace h := Option.bind_eq_some_iff.mp h
        obtain ⟨l, hl, h⟩ := h
        injection h with h
        injection h with h1 h2
        subst h1 h2
        have H := Aside0.mk hl
        have c9b : (n == 0) = false := by rw [beq_eq_false_iff_ne]; exact c9
        clear hl c9
        go_enter Try.func31, Try.ntmps31
        go_wp2_with (first
          | (go_at_call 75; refine (table_Names.calls k a0_0 a0_1 a0_2 A0_3 c0_3 l0_3 A1 c1 l1 t1 0 _ (Kd.C_alloc HR0.out _) HC0.out (Kd.C_alloc HR1.out _) HC1.out HWR.out).mono ?_; rintro e w1 ⟨rfl, hb⟩; have HB1 := Aside0.mk (below_step (below_alloc (Below.refl _ w) _) hb); have BK1 := Aside0.mk (blk_below (heap_alloc_new w _) hb); clear hb; have k0 : w1.cell? ⟨w.heap.size, 0, none⟩ = some (.int .i64 a0_0) := (blk_cell BK1.out 0).trans rfl; have k1 : w1.cell? ⟨w.heap.size, 1, none⟩ = some (.int .i64 a0_1) := (blk_cell BK1.out 1).trans rfl; have k2 : w1.cell? ⟨w.heap.size, 2, none⟩ = some (.int .i64 a0_2) := (blk_cell BK1.out 2).trans rfl; have k3 : w1.cell? ⟨w.heap.size, 3, none⟩ = some (.slice A0_3 l0_3.length c0_3) := (blk_cell BK1.out 3).trans rfl)
          | (go_at_call 76; refine (plain_plain.calls a0_0 a0_1 a0_2 A0_3 c0_3 l0_3 true _ (Kd.C_below HR0.out HB1.out) HC0.out HP.out).mono ?_; rintro e w2 ⟨rfl, hb2⟩; have HB2 := Aside0.mk (below_step HB1.out hb2); have BK2 := Aside0.mk (blk_below BK1.out hb2); clear hb2 k0 k1 k2 k3 BK1 HB1; have k0 : w2.cell? ⟨w.heap.size, 0, none⟩ = some (.int .i64 a0_0) := (blk_cell BK2.out 0).trans rfl; have k1 : w2.cell? ⟨w.heap.size, 1, none⟩ = some (.int .i64 a0_1) := (blk_cell BK2.out 1).trans rfl; have k2 : w2.cell? ⟨w.heap.size, 2, none⟩ = some (.int .i64 a0_2) := (blk_cell BK2.out 2).trans rfl; have k3 : w2.cell? ⟨w.heap.size, 3, none⟩ = some (.slice A0_3 l0_3.length c0_3) := (blk_cell BK2.out 3).trans rfl)
          | (go_at_call 73; refine (tC.new _).mono ?_; rintro e w3 ⟨gb, mb, rfl, g1, g2, st, gn⟩; have ST := Aside0.mk st; have GN := Aside0.mk gn; have G12 := Aside0.mk (And.intro g1 g2); have BK3 := Aside0.mk (blk_grown BK2.out gn (by simp)); clear g1 g2 st gn k0 k1 k2 k3 BK2; have q0 := fun o => Lib.cell?_alloc_some o (show w3.cell? ⟨w.heap.size, 0, none⟩ = some (.int .i64 a0_0) from (blk_cell BK3.out 0).trans rfl); have q2 := fun o => Lib.cell?_alloc_some o (show w3.cell? ⟨w.heap.size, 2, none⟩ = some (.int .i64 a0_2) from (blk_cell BK3.out 2).trans rfl))
          | (go_at_call 74; refine ((tC.both (Kd.C_below HR0.out HB2.out) (Kd.C_below HR1.out HB2.out) G12.out.1 G12.out.2 k).2 xx 0 (l1.length : Int) n _ HN.out (ST.out.kept (World.grownBy_alloc w3 (Obj.cells #[.pointer (some ⟨gb, 0, none⟩)] 120) none))).mono ?_; rintro e w4 ⟨rfl, st4, gw4⟩; have STa := Aside0.mk (ST.out.kept (World.grownBy_alloc w3 (Obj.cells #[.pointer (some ⟨gb, 0, none⟩)] 120) none)); have ST4 := Aside0.mk st4; have BC4 := Aside0.mk (tC.blk_map (heap_alloc_new w3 (Obj.cells #[.pointer (some ⟨gb, 0, none⟩)] 120)) STa.out gw4); have BK4 := Aside0.mk (tC.blk_map (blk_alloc BK3.out (Obj.cells #[.pointer (some ⟨gb, 0, none⟩)] 120)) STa.out gw4); have HB4 := Aside0.mk (below_step HB2.out ST4.out.below); have SZ4 := Aside0.mk (And.intro (blk_lt BK3.out) (below_size ST.out.below)); have k2 := fun o o' => Lib.cell?_alloc_some o' (Lib.cell?_alloc_some o (show w4.cell? ⟨w.heap.size, 2, none⟩ = some (.int .i64 a0_2) from (blk_cell BK4.out 2).trans rfl)); have B2L := Aside0.mk (below_size ST4.out.below); have LS0 := Aside0.mk (show plain_Steps.LSt w2 ⟨gb, mb, w.heap.size, w3.heap.size, w4.heap.size, w4.heap.size + 1⟩ a0_0 a0_1 a0_2 A0_3 A1 c0_3 c1 l0_3 l1 (.slice none 0 0) [] ((w4.alloc (Obj.cells #[Value.slice none 0 0] 23)).alloc (Obj.cells #[.func (.func 77) #[] #[.pointer (some ⟨w.heap.size, 0, none⟩), .pointer (some ⟨w3.heap.size, 0, none⟩), .pointer (some ⟨w4.heap.size, 0, none⟩), .pointer (some ⟨w4.heap.size + 1, 0, none⟩)]] 127)) from ⟨(ST4.out.kept (World.grownBy_alloc w4 (Obj.cells #[Value.slice none 0 0] 23) none)).kept (World.grownBy_alloc _ (Obj.cells #[.func (.func 77) #[] #[.pointer (some ⟨w.heap.size, 0, none⟩), .pointer (some ⟨w3.heap.size, 0, none⟩), .pointer (some ⟨w4.heap.size, 0, none⟩), .pointer (some ⟨w4.heap.size + 1, 0, none⟩)]] 127) none), blk_alloc (blk_alloc BK4.out _) _, blk_alloc (blk_alloc BC4.out _) _, by simpa using heap_alloc_new (w4.alloc (Obj.cells #[Value.slice none 0 0] 23)) (Obj.cells #[.func (.func 77) #[] #[.pointer (some ⟨w.heap.size, 0, none⟩), .pointer (some ⟨w3.heap.size, 0, none⟩), .pointer (some ⟨w4.heap.size, 0, none⟩), .pointer (some ⟨w4.heap.size + 1, 0, none⟩)]] 127), blk_alloc (heap_alloc_new w4 (Obj.cells #[Value.slice none 0 0] 23)) _, Kd.R_nil _ _ _ _ _⟩); clear st4 gw4 q0 q2 STa ST BK3 GN)
          | (go_at_call 77; refine ((plain_Steps.all (Kd.C_below HR0.out HB2.out) (Kd.C_below HR1.out HB2.out) G12.out.1 G12.out.2 B2L.out k) a0_2 0 (l1.length : Int) [] l _ _ H.out LS0.out).mono ?_; rintro e w6 ⟨v6, rfl, ls6, lr6⟩; obtain ⟨A6, c6_, rfl⟩ := Kd.R_slice ls6.row; have HB6 := Aside0.mk (below_step HB2.out ls6.st.below); have R6 := Aside0.mk (Kd.R_mono (ok' := fun _ => True) (Kd.R_lower ls6.row (below_size HB2.out)) (fun _ _ => trivial)); have k6 : w6.cell? ⟨w4.heap.size, 0, none⟩ = some (.slice A6 l.length c6_) := (blk_cell ls6.l 0).trans rfl; clear ls6 lr6 k2))
        go_ret2
        exact ⟨_, rfl, R6.out, HB6.out⟩
  · replace h : some (([] : List Int), t2) = some (r1, r2) := by simpa only [if_neg c] using h
    injection h with h
    injection h with h1 h2
    subst h1 h2
    have cb : (t2 != 0) = true := bne_iff_ne.2 c
    clear c
    go_enter Try.func31, Try.ntmps31
    go_wp2_with (go_at_call 75; refine (table_Names.calls k a0_0 a0_1 a0_2 A0_3 c0_3 l0_3 A1 c1 l1 t1 t2 _ (Kd.C_alloc HR0.out _) HC0.out (Kd.C_alloc HR1.out _) HC1.out HWR.out).mono ?_; rintro e w1 ⟨rfl, hb⟩; have HB1 := Aside0.mk (below_step (below_alloc (Below.refl _ w) _) hb); clear hb)
    go_ret2
    exact ⟨_, rfl, Kd.R_nil _ _ _ _ _, HB1.out⟩

end Go.Proofs.Ythgiiikjcfhgjaa.GU
