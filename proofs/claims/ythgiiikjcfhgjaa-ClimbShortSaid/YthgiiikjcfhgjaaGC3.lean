-- Written by ext.py, a program of this session.
import Derived.Test.YthgiiikjcfhgjaaGC0
import Derived.Test.YthgiiikjcfhgjaaGC2
namespace Go.Proofs.Ythgiiikjcfhgjaa.GC
open Go.RowKit Go.Proofs.YthgiiikjcfhgjaaW.PrintWords Go.Proofs.YthgiiikjcfhgjaaW.PrintLast Go.Proofs.YthgiiikjcfhgjaaW.PrintMore
attribute [local go_sem] max2_int min2_int max_two min_two max_three min_three max_four min_four cellIs_set   -- for this text's walks alone
set_option linter.unusedVariables false
set_option linter.unusedSimpArgs false

/-! ### climb_Read: function 15 -/
def cR.top (st : List Int) : Int := if st.length = 0 then -1 else rd st ((st.length : Int) - 1)
def cR.shutL : Nat → List Int → List Int → Option (List Int × List Int)
  | 0, _, _ => none
  | q + 1, out, st => if cR.top st = -1 then some (out, st) else if out.length < 1000 ∧ 0 < st.length then cR.shutL q (out ++ [cR.top st]) (st.take (st.length - 1)) else none
def cR.more (ops : List S94) (x y : Int) : Bool := decide ((rd_T94 ops y).f0 > (rd_T94 ops x).f0) || ((rd_T94 ops y).f0 == (rd_T94 ops x).f0 && !(rd_T94 ops x).f1)
def cR.defL (ops : List S94) (x : Int) : Nat → List Int → List Int → Option (List Int × List Int)
  | 0, _, _ => none
  | q + 1, out, st => if cR.top st = -1 then some (out, st) else if 0 ≤ cR.top st ∧ cR.top st < (ops.length : Int) ∧ 0 ≤ x ∧ x < (ops.length : Int) ∧ out.length < 1000 ∧ 0 < st.length then (if cR.more ops x (cR.top st) = true then cR.defL ops x q (out ++ [cR.top st]) (st.take (st.length - 1)) else some (out, st)) else none
def cR.endL : Nat → List Int → List Int → Option (List Int)
  | 0, _, _ => none
  | q + 1, out, st => if st.length = 0 then some out else if out.length < 1000 then cR.endL q (out ++ [cR.top st]) (st.take (st.length - 1)) else none
def cR.readL (ops : List S94) (l : List Int) : Nat → Nat → List Int → List Int → Int → Bool → Option (List Int × Int)
  | 0, _, _, _, _, _ => none
  | q + 1, i, out, st, deep, done => if i < l.length then
      (if done = (decide (rd l i ≥ 100) || rd l i == -1) then some ([], 5)
      else if ¬ (out.length < 1000 ∧ st.length < 1000 ∧ -1000 < deep ∧ deep < 1000) then none
      else if rd l i ≥ 100 then cR.readL ops l q (i + 1) (out ++ [rd l i]) st deep true
      else if rd l i = -1 then cR.readL ops l q (i + 1) out (st ++ [rd l i]) (deep + 1) done
      else if rd l i = -2 then (if deep - 1 < 0 then some ([], 5) else (cR.shutL q out st).bind fun p => if 0 < p.2.length then cR.readL ops l q (i + 1) p.1 (p.2.take (p.2.length - 1)) (deep - 1) done else none)
      else (cR.defL ops (rd l i) q out st).bind fun p => if p.2.length < 1000 then cR.readL ops l q (i + 1) p.1 (p.2 ++ [rd l i]) deep false else none)
    else if done = false ∨ deep > 0 then some ([], 5) else (cR.endL q out st).map fun o => (o, 0)
def climb_Read.f (k : Nat) (l0 : List S94) (l1 : List Int) : Option (List Int × Int) :=
  (climb_wrong.f k l0 l1 true).bind fun e => if e = 0 then (if l1.length < 1000 then cR.readL l0 l1 k 0 [] [] 0 false else none) else some ([], e)
theorem cR.shut_mono : ∀ q out st, LeO (cR.shutL q out st) (cR.shutL (q + 1) out st) := by
  intro q
  induction q with
  | zero => intro out st r h; rw [cR.shutL] at h; cases h
  | succ q ih =>
    intro out st
    rw [cR.shutL, cR.shutL]
    split
    · exact LeO.refl _
    · split
      · exact ih _ _
      · exact LeO.refl _
theorem cR.def_mono (ops : List S94) (x : Int) : ∀ q out st, LeO (cR.defL ops x q out st) (cR.defL ops x (q + 1) out st) := by
  intro q
  induction q with
  | zero => intro out st r h; rw [cR.defL] at h; cases h
  | succ q ih =>
    intro out st
    rw [cR.defL, cR.defL]
    split
    · exact LeO.refl _
    · split
      · split
        · exact ih _ _
        · exact LeO.refl _
      · exact LeO.refl _
theorem cR.end_mono : ∀ q out st, LeO (cR.endL q out st) (cR.endL (q + 1) out st) := by
  intro q
  induction q with
  | zero => intro out st r h; rw [cR.endL] at h; cases h
  | succ q ih =>
    intro out st
    rw [cR.endL, cR.endL]
    split
    · exact LeO.refl _
    · split
      · exact ih _ _
      · exact LeO.refl _
theorem cR.read_mono (ops : List S94) (l : List Int) : ∀ q i out st deep done, LeO (cR.readL ops l q i out st deep done) (cR.readL ops l (q + 1) i out st deep done) := by
  intro q
  induction q with
  | zero => intro i out st deep done r h; rw [cR.readL] at h; cases h
  | succ q ih =>
    intro i out st deep done
    rw [cR.readL, cR.readL]
    refine LeO.ite ?_ ?_
    · refine LeO.ite (LeO.refl _) (LeO.ite (LeO.refl _) (LeO.ite (ih _ _ _ _ _) (LeO.ite (ih _ _ _ _ _) (LeO.ite (LeO.ite (LeO.refl _) (LeO.bind (cR.shut_mono _ _ _) (fun p => ?_))) (LeO.bind (cR.def_mono _ _ _ _ _) (fun p => ?_))))))
      · exact LeO.ite (ih _ _ _ _ _) (LeO.refl _)
      · exact LeO.ite (ih _ _ _ _ _) (LeO.refl _)
    · exact LeO.ite (LeO.refl _) (LeO.map _ (cR.end_mono _ _ _))
theorem climb_Read.mono : ∀ a0 a1 k, LeO (climb_Read.f k a0 a1) (climb_Read.f (k + 1) a0 a1) := by
  intro a0 a1 k
  unfold climb_Read.f
  exact LeO.bind (climb_wrong.mono _ _ _ _) (fun e => LeO.ite (LeO.ite (cR.read_mono _ _ _ _ _ _ _ _) (LeO.refl _)) (LeO.refl _))
structure cR.Sv (w0 : World) (ob sb : Nat) (vo vs : Value) (out st : List Int) (w : World) : Prop where
  below : Below w0.heap.size w0 w
  g1 : w0.heap.size ≤ ob
  g2 : w0.heap.size ≤ sb
  ne : ob ≠ sb
  bo : w.heap[ob]? = some (.cells #[vo] 23 (0, 0))
  bs : w.heap[sb]? = some (.cells #[vs] 23 (0, 0))
  ro : Kd.R (Kd.int .i64) 3 w w0.heap.size (fun k => k ≠ ob ∧ k ≠ sb) vo out
  rs : Kd.R (Kd.int .i64) 3 w w0.heap.size (fun k => k ≠ ob ∧ k ≠ sb) vs st
  ap : ∀ k, vo.ownBlock = some k → some k ≠ vs.ownBlock
def cR.St (w0 : World) (ob sb : Nat) (out st : List Int) (w : World) : Prop := ∃ vo vs, cR.Sv w0 ob sb vo vs out st w
section
variable {w0 w w1 : World} {ob sb : Nat} {vo vs v1 : Value} {out st o1 : List Int} {x : Int}
set_option maxRecDepth 100000 in
theorem cR.Sv.kept (h : cR.Sv w0 ob sb vo vs out st w) (hg : w.grownBy w1 none) : cR.Sv w0 ob sb vo vs out st w1 :=
  ⟨Below.grown h.below hg (below_size h.below) (fun k e => by cases e), h.g1, h.g2, h.ne, blk_grown h.bo hg (by simp), blk_grown h.bs hg (by simp), Kd.R_grown2 h.ro rfl hg (fun _ e => by cases e), Kd.R_grown2 h.rs rfl hg (fun _ e => by cases e), h.ap⟩
set_option maxRecDepth 100000 in
theorem cR.drew (w : World) (n : Nat) : w.grownBy (w.drewN n) none := ⟨rfl, rfl, rfl, by first | exact Nat.le_refl _ | simp, fun _ _ _ => by first | rfl | simp⟩
set_option maxRecDepth 100000 in
/-- The stack's value written: a prefix of the same row. -/
theorem cR.Sv.cut (h : cR.Sv w0 ob sb vo vs out st w) {A : Option Addr} {c m : Nat} (e : vs = .slice A st.length c) (hm : m ≤ st.length) : cR.Sv w0 ob sb vo (.slice A m c) out (st.take m) (w.setCell ⟨sb, 0, none⟩ (.slice A m c)) := by
  subst e
  refine ⟨h.below.setCell h.g2 _, h.g1, h.g2, h.ne, blk_far h.bo h.ne _, blk_set h.bs 0 _, Kd.R_far h.ro (fun _ hk => hk.2) _, Kd.R_far (Kd.R_take h.rs hm) (fun _ hk => hk.2) _, fun k hk => ?_⟩
  have := h.ap k hk
  cases A with
  | none => exact fun e => by simp [Value.ownBlock] at e
  | some a => exact this
set_option maxRecDepth 100000 in
/-- out's row grown: behind the append, and the store. -/
theorem cR.Sv.pushO (h : cR.Sv w0 ob sb vo vs out st w) (hg : w.grownBy w1 vo.ownBlock) (hb : Below w0.heap.size w0 w1) (hr : Kd.R (Kd.int .i64) 3 w1 w0.heap.size (fun k => k ≠ ob ∧ k ≠ sb) v1 o1) (hat : v1.ownBlock = vo.ownBlock ∨ ∃ b, v1.ownBlock = some b ∧ w.heap.size ≤ b) : cR.Sv w0 ob sb v1 vs o1 st (w1.setCell ⟨ob, 0, none⟩ v1) := by
  have n1 : some ob ≠ vo.ownBlock := fun e => (h.ro.1 ob e.symm).1 rfl
  have n2 : some sb ≠ vo.ownBlock := fun e => (h.ro.1 sb e.symm).2 rfl
  refine ⟨hb.setCell h.g1 _, h.g1, h.g2, h.ne, blk_set (blk_grown h.bo hg n1) 0 _, blk_far (blk_grown h.bs hg n2) (fun e => h.ne e.symm) _, Kd.R_far hr (fun _ hk => hk.1) _, Kd.R_far (Kd.R_grown2 h.rs rfl hg (fun k hk => h.ap k hk)) (fun _ hk => hk.1) _, fun k hk => ?_⟩
  rcases hat with e | ⟨b, e, hle⟩
  · exact h.ap k (e ▸ hk)
  · rw [e] at hk
    injection hk with hk
    subst hk
    intro e2
    obtain ⟨A, c, rfl⟩ := Kd.R_slice h.rs
    exact absurd (Kd.R_lt h.rs _ e2.symm) (by omega)
set_option maxRecDepth 100000 in
theorem cR.Sv.pushS (h : cR.Sv w0 ob sb vo vs out st w) (hg : w.grownBy w1 vs.ownBlock) (hb : Below w0.heap.size w0 w1) (hr : Kd.R (Kd.int .i64) 3 w1 w0.heap.size (fun k => k ≠ ob ∧ k ≠ sb) v1 o1) (hat : v1.ownBlock = vs.ownBlock ∨ ∃ b, v1.ownBlock = some b ∧ w.heap.size ≤ b) : cR.Sv w0 ob sb vo v1 out o1 (w1.setCell ⟨sb, 0, none⟩ v1) := by
  have n1 : some ob ≠ vs.ownBlock := fun e => (h.rs.1 ob e.symm).1 rfl
  have n2 : some sb ≠ vs.ownBlock := fun e => (h.rs.1 sb e.symm).2 rfl
  refine ⟨hb.setCell h.g2 _, h.g1, h.g2, h.ne, blk_far (blk_grown h.bo hg n1) h.ne _, blk_set (blk_grown h.bs hg n2) 0 _, Kd.R_far (Kd.R_grown2 h.ro rfl hg (fun k hk e => h.ap k e.symm hk.symm)) (fun _ hk => hk.2) _, Kd.R_far hr (fun _ hk => hk.2) _, fun k hk => ?_⟩
  rcases hat with e | ⟨b, e, hle⟩
  · rw [e]; exact h.ap k hk
  · rw [e]
    intro e2
    injection e2 with e2
    subst e2
    exact absurd (Kd.R_lt h.ro _ hk) (by omega)
end
set_option maxRecDepth 100000 in
theorem cR.top_calls {w0 w : World} {ob sb : Nat} {out st : List Int} (h : cR.St w0 ob sb out st w) : Calls Try.prog 53 #[.pointer (some ⟨sb, 0, none⟩)] w fun e w' => e = .returned (.int .i64 (cR.top st)) ∧ cR.St w0 ob sb out st w' := by
  obtain ⟨vo, vs, h⟩ := h
  obtain ⟨A, c, rfl⟩ := Kd.R_slice h.rs
  obtain ⟨-, hc, hC⟩ := Kd.R_reads' h.rs
  have hcell : w.cell? ⟨sb, 0, none⟩ = some (.slice A st.length c) := (blk_cell h.bs 0).trans rfl
  have H := Aside0.mk h
  have hbig : st.length ≤ 9223372036854775807 := hC.2.1
  by_cases c0 : st.length = 0
  · have c0z : ((st.length : Int) == 0) = true := by rw [beq_iff_eq]; omega
    clear h hC
    go_enter Try.func53, Try.ntmps53
    go_wp2
    go_ret
    exact ⟨by rw [cR.top, if_pos c0]; rfl, _, _, H.out⟩
  · have c0z : ((st.length : Int) == 0) = false := by rw [beq_eq_false_iff_ne]; omega
    have ew : wrap64 ((st.length : Int) - 1) = (st.length : Int) - 1 := by unfold wrap64; omega
    have p0 : 0 ≤ (st.length : Int) - 1 := by omega
    have p1 : (st.length : Int) - 1 < (st.length : Int) := by omega
    obtain ⟨ad, rfl, hcw⟩ := Kd.at_int hC ((st.length : Int) - 1) p0 p1
    rw [show ((st.length : Int) - 1).toNat = st.length - 1 by omega] at hcw
    have p0t := eq_true p0
    have p1t := eq_true p1
    clear h hC
    go_enter Try.func53, Try.ntmps53
    go_wp2
    go_ret
    exact ⟨by rw [cR.top, if_neg c0]; rfl, _, _, H.out⟩
structure cR.PopS (ob sb : Nat) (vo vs : Value) (ad : Addr) (j : Nat) (x : Int) (w : World) : Prop where
  b1 : w.heap[ob]? = some (.cells #[vo] 23 (0, 0))
  b2 : w.heap[sb]? = some (.cells #[vs] 23 (0, 0))
  c3 : w.cell? (ad.add j) = some (.int .i64 x)
set_option maxRecDepth 100000 in
theorem cR.PopS.c1 {ob sb : Nat} {vo vs : Value} {ad : Addr} {j : Nat} {x : Int} {w : World} (h : cR.PopS ob sb vo vs ad j x w) : w.cell? ⟨ob, 0, none⟩ = some vo := (blk_cell h.b1 0).trans rfl
set_option maxRecDepth 100000 in
theorem cR.PopS.c2 {ob sb : Nat} {vo vs : Value} {ad : Addr} {j : Nat} {x : Int} {w : World} (h : cR.PopS ob sb vo vs ad j x w) : w.cell? ⟨sb, 0, none⟩ = some vs := (blk_cell h.b2 0).trans rfl
set_option maxRecDepth 100000 in
theorem cR.PopS.kept {ob sb : Nat} {vo vs : Value} {ad : Addr} {j : Nat} {x : Int} {w w1 : World} (h : cR.PopS ob sb vo vs ad j x w) {row : Option Nat} (hg : w.grownBy w1 row) (n1 : some ob ≠ row := by simp) (n2 : some sb ≠ row := by simp) (n3 : some (ad.add j).block ≠ row := by simp) : cR.PopS ob sb vo vs ad j x w1 :=
  ⟨blk_grown h.b1 hg n1, blk_grown h.b2 hg n2, cell_grown hg h.c3 n3⟩
set_option maxRecDepth 100000 in
theorem cR.drew1 (w : World) : w.grownBy w.drew none := ⟨rfl, rfl, rfl, Nat.le_refl _, fun _ _ _ => rfl⟩
set_option maxRecDepth 100000 in
theorem cR.info : (Try.prog.info? 3).map (fun i => (i.zero, i.size, i.bytes)) = some (some (.int .i64 0), 1, 8) := by kernel_rfl
set_option maxRecDepth 100000 in
theorem cR.pop_calls {w0 w : World} {ob sb : Nat} {out st : List Int} (h : cR.St w0 ob sb out st w) (hn : 0 < st.length) (ho : out.length < 1000) : Calls Try.prog 52 #[.pointer (some ⟨ob, 0, none⟩), .pointer (some ⟨sb, 0, none⟩)] w fun e w' => e = (.returned (.tuple #[])) ∧ cR.St w0 ob sb (out ++ [cR.top st]) (st.take (st.length - 1)) w' := by
  obtain ⟨vo, vs, h⟩ := h
  obtain ⟨ad, c, rfl⟩ := Kd.R_slice1 h.rs hn
  obtain ⟨-, hc, hC⟩ := Kd.R_reads' h.rs
  have hcell : w.cell? ⟨sb, 0, none⟩ = some (.slice (some ad) st.length c) := (blk_cell h.bs 0).trans rfl
  have H := Aside0.mk h
  have hbig : st.length ≤ 9223372036854775807 := hC.2.1
  have ew : wrap64 ((st.length : Int) - 1) = (st.length : Int) - 1 := by unfold wrap64; omega
  have p0 : 0 ≤ (st.length : Int) - 1 := by omega
  have p1 : (st.length : Int) - 1 < (st.length : Int) := by omega
  obtain ⟨ad', e', hcw⟩ := Kd.at_int hC ((st.length : Int) - 1) p0 p1
  obtain rfl := Option.some.inj e'
  rw [show ((st.length : Int) - 1).toNat = st.length - 1 by omega] at hcw
  have et : cR.top st = rd st ((st.length : Int) - 1) := by rw [cR.top, if_neg (by omega)]
  rw [et]
  obtain ⟨x, hx⟩ : ∃ x, rd st ((st.length : Int) - 1) = x := ⟨_, rfl⟩
  rw [hx] at hcw ⊢
  have p0t := eq_true p0
  have p1t := eq_true p1
  have p2t : (1 ≤ (st.length : Int)) = True := eq_true (by omega)
  have HS := Aside0.mk (cR.PopS.mk h.bo h.bs hcw)
  clear h hC e' hx et
  go_enter Try.func52, Try.ntmps52
  try go_wp2
  refine start_ (n := 10) (S := cR.PopS ob sb vo (.slice (some ad) st.length c) ad (st.length - 1) x) (ds := [9]) #[false, false, false, false, false, false, false, false, false, false] (by kernel_rfl) rfl rfl (cR.PopS.kept HS.out (cR.drew1 _)) (fun hHeld => ?_)
  refine take_ (i := 0) (N := some 2) (v := ?_) (a' := ?_) #[true, false, false, false, false, false, false, false, false, false] rfl rfl (by kernel_rfl) (fun _ _ _ h_ => h_) (Or.inl ⟨by rfl, ?_⟩) hHeld ?_ ?_
  rotate_left
  · intro w_ hSw
    have hq1 := hSw.c1
    have hq2 := hSw.c2
    have hq3 := hSw.c3
    go_simp
    first | done | with_reducible rfl
  rotate_left
  · simp only [Act.put, List.setIfInBounds_toArray, List.set_cons_zero, List.set_cons_succ, i64_w, ew]
    rfl
  refine take_ (i := 1) (N := some 3) (v := ?_) (a' := ?_) #[true, true, false, false, false, false, false, false, false, false] rfl rfl (by kernel_rfl) (fun _ _ _ h_ => h_) (Or.inl ⟨by rfl, ?_⟩) hHeld ?_ ?_
  rotate_left
  · intro w_ hSw
    have hq1 := hSw.c1
    have hq2 := hSw.c2
    have hq3 := hSw.c3
    go_simp
    first | done | with_reducible rfl
  rotate_left
  · simp only [Act.put, List.setIfInBounds_toArray, List.set_cons_zero, List.set_cons_succ, i64_w, ew]
    rfl
  refine take_ (i := 2) (N := some 4) (v := ?_) (a' := ?_) #[true, true, true, false, false, false, false, false, false, false] rfl rfl (by kernel_rfl) (fun _ _ _ h_ => h_) (Or.inl ⟨by rfl, ?_⟩) hHeld ?_ ?_
  rotate_left
  · intro w_ hSw
    have hq1 := hSw.c1
    have hq2 := hSw.c2
    have hq3 := hSw.c3
    go_simp
    first | done | with_reducible rfl
  rotate_left
  · simp only [Act.put, List.setIfInBounds_toArray, List.set_cons_zero, List.set_cons_succ, i64_w, ew]
    rfl
  refine take_ (i := 3) (N := some 5) (v := ?_) (a' := ?_) #[true, true, true, true, false, false, false, false, false, false] rfl rfl (by kernel_rfl) (fun _ _ _ h_ => h_) (Or.inl ⟨by rfl, ?_⟩) hHeld ?_ ?_
  rotate_left
  · intro w_ hSw
    have hq1 := hSw.c1
    have hq2 := hSw.c2
    have hq3 := hSw.c3
    go_simp
    first | done | with_reducible rfl
  rotate_left
  · simp only [Act.put, List.setIfInBounds_toArray, List.set_cons_zero, List.set_cons_succ, i64_w, ew]
    rfl
  refine take_ (i := 4) (N := some 6) (v := ?_) (a' := ?_) #[true, true, true, true, true, false, false, false, false, false] rfl rfl (by kernel_rfl) (fun _ _ _ h_ => h_) (Or.inl ⟨by rfl, ?_⟩) hHeld ?_ ?_
  rotate_left
  · intro w_ hSw
    have hq1 := hSw.c1
    have hq2 := hSw.c2
    have hq3 := hSw.c3
    go_simp
    first | done | with_reducible rfl
  rotate_left
  · simp only [Act.put, List.setIfInBounds_toArray, List.set_cons_zero, List.set_cons_succ, i64_w, ew]
    rfl
  refine take_ (i := 5) (N := some 7) (v := ?_) (a' := ?_) #[true, true, true, true, true, true, false, false, false, false] rfl rfl (by kernel_rfl) (fun _ _ _ h_ => h_) (Or.inl ⟨by rfl, ?_⟩) hHeld ?_ ?_
  rotate_left
  · intro w_ hSw
    have hq1 := hSw.c1
    have hq2 := hSw.c2
    have hq3 := hSw.c3
    go_simp
    first | done | with_reducible rfl
  rotate_left
  · simp only [Act.put, List.setIfInBounds_toArray, List.set_cons_zero, List.set_cons_succ, i64_w, ew]
    rfl
  refine take_ (i := 6) (N := some 8) (v := ?_) (a' := ?_) #[true, true, true, true, true, true, true, false, false, false] rfl rfl (by kernel_rfl) (fun _ _ _ h_ => h_) (Or.inl ⟨by rfl, ?_⟩) hHeld ?_ ?_
  rotate_left
  · intro w_ hSw
    have hq1 := hSw.c1
    have hq2 := hSw.c2
    have hq3 := hSw.c3
    go_simp
    first | done | with_reducible rfl
  rotate_left
  · simp only [Act.put, List.setIfInBounds_toArray, List.set_cons_zero, List.set_cons_succ, i64_w, ew]
    rfl
  refine one_ (i := 7) (N := some 9) #[true, true, true, true, true, true, true, true, false, false] rfl rfl (by kernel_rfl) (by decide) (fun K_ hK_ => ?_)
  go_simp
  refine hK_.out _ _ (cR.PopS.kept hHeld (World.grownBy_alloc _ _ none)) (fun hHeld => ?_)
  clear hK_ K_
  try (refine norm_ (by simp only [Act.put, List.setIfInBounds_toArray, List.set_cons_zero, List.set_cons_succ, i64_w, ew]; rfl) ?_)
  refine one_ (i := 8) (N := some 10) #[true, true, true, true, true, true, true, true, true, false] rfl rfl (by kernel_rfl) (by decide) (fun K_ hK_ => ?_)
  have hSv := (H.out).kept (cR.drew1 w)
  refine Kd.R_append_step (Kd.int .i64) (w0 := w0) w0.heap.size (by rfl) (.tmp 2) (.tmp 9) 23 3 (.int .i64 0) 8 rfl Try.underlying23 cR.info rfl (by decide) (by omega) vo out x _ (fun k => k ≠ ob ∧ k ≠ sb) (fun _ => False) rfl rfl ?xm ?xo ?xf hSv.ro hSv.below (below_size hSv.below) ?xl ?_
  case xm => rfl
  case xo => exact fun k hk => hk.elim
  case xf => exact fun k hk => ⟨by have := blk_lt hSv.bo; omega, by have := blk_lt hSv.bs; omega⟩
  case xl => rw [Nat.mul_comm]; omega
  intro v1 w1 hr1 hb1 hg1 hat1
  have n1 : some ob ≠ vo.ownBlock := fun e => (hSv.ro.1 ob e.symm).1 rfl
  have n2 : some sb ≠ vo.ownBlock := fun e => (hSv.ro.1 sb e.symm).2 rfl
  have n3 : some (ad.add (st.length - 1)).block ≠ vo.ownBlock := fun e => hSv.ap _ e.symm (by simp only [Value.ownBlock, Addr.add]; split <;> rfl)
  refine hK_.out _ _ (cR.PopS.kept (cR.PopS.kept HS.out (cR.drew1 _)) hg1 n1 n2 n3) (fun hHeld => ?_)
  have hSv2 := Aside0.mk (hSv.pushO hg1 hb1 hr1 hat1)
  obtain ⟨B1, c1, ev⟩ := Kd.R_slice hr1
  generalize (out ++ [x]).length = ln at ev
  subst ev
  have hq1 := hHeld.c1
  have hq2 := blk_frozen hHeld.b1
  clear hK_ K_ hr1 hb1 hg1 hat1 n1 n2 n3 hSv hHeld HS H hcell hcw
  try (refine norm_ (by simp only [Act.put, List.setIfInBounds_toArray, List.set_cons_zero, List.set_cons_succ, i64_w, ew]; rfl) ?_)
  refine last_ (i := 9) (N := none) #[true, true, true, true, true, true, true, true, true, true] rfl rfl (by kernel_rfl) (by decide) (fun K hK => ?_)
  refine skip_ (w1 := ?_) (by rfl) rfl ?_ ?_
  rotate_left
  · go_simp
    rfl
  refine hK.out _ _ ?_
  clear hK K hq1 hq2
  refine done_ (by kernel_rfl) ?_
  generalize World.setCell _ _ _ = w2 at hSv2 ⊢
  have hq1 := (blk_cell hSv2.out.bs 0).trans rfl
  have hq2 := blk_frozen hSv2.out.bs
  have hcut := fun i hi => cut_to (P := Try.prog) (i := i) 23 3 .i64 Try.underlying23 hi (some ad) st.length c ((st.length : Int) - 1) p0 (by omega) hc
  try go_wp2
  refine bodyPost_end (results_none rfl _ _ _) rfl ?_
  exact ⟨rfl, _, _, hSv2.out.cut rfl (Nat.sub_le _ _)⟩
set_option maxRecDepth 100000 in
theorem cR.St.made {w w1 : World} (h : Below w.heap.size w w1) : cR.St w w1.heap.size (w1.heap.size + 1) [] [] ((w1.alloc (.cells #[.slice none 0 0] 23)).alloc (.cells #[.slice none 0 0] 23)) := by
  have hs := below_size h
  refine ⟨_, _, below_alloc (below_alloc h _) _, hs, by omega, by omega, blk_alloc (heap_alloc_new w1 _) _, by simpa using heap_alloc_new (w1.alloc (.cells #[.slice none 0 0] 23)) (.cells #[.slice none 0 0] 23), Kd.R_nil _ _ _ _ _, Kd.R_nil _ _ _ _ _, fun k hk => by cases hk⟩

set_option maxHeartbeats 8000000 in
set_option maxRecDepth 100000 in
theorem climb_Read.calls (k : Nat) (A0 : Option Addr) (c0 : Nat) (l0 : List (S94)) (A1 : Option Addr) (c1 : Nat) (l1 : List Int) (r1 : List Int) (r2 : Int) (w : World) (hr0 : Kd.C k94 w A0 l0.length l0) (hc0 : l0.length ≤ c0) (hr1 : Kd.C (Kd.int .i64) w A1 l1.length l1) (hc1 : l1.length ≤ c1) (h : climb_Read.f k l0 l1 = some (r1, r2)) :
    Calls Try.prog 15 #[.slice A0 l0.length c0, .slice A1 l1.length c1] w fun e w' => ∃ v0_ : Value, e = .returned (.tuple #[v0_, .int .i64 r2]) ∧ Kd.R (Kd.int .i64) 3 w' w.heap.size (fun _ => True) v0_ r1 ∧ Below w.heap.size w w' := by
  have hu94 := Try.underlying94
  have HR0 := Aside0.mk hr0
  have HC0 := Aside0.mk hc0
  have HR1 := Aside0.mk hr1
  have HC1 := Aside0.mk hc1
  have HB0 := Aside0.mk (Below.refl w.heap.size w)
  unfold climb_Read.f at h
  clear hr0 hc0 hr1 hc1
  cases hw : climb_wrong.f k l0 l1 true with
  | none => rw [hw] at h; cases h
  | some e =>
  rw [hw] at h
  simp only [Option.bind_some] at h
  have HW := Aside0.mk hw
  clear hw
  by_cases ce : e = 0
  · rw [if_pos ce] at h
    by_cases cl : l1.length < 1000
    · rw [if_pos cl] at h
      subst ce
      have cez : ((0 : Int) != 0) = false := rfl
      have H0 := Aside0.mk h
      clear h
      go_enter Try.func15, Try.ntmps15
      go_wp2_with (go_at_call 51; refine (climb_wrong.calls k A0 c0 l0 A1 c1 l1 true 0 _ HR0.out HC0.out HR1.out HC1.out HW.out).mono ?_; rintro e w1 ⟨rfl, hb⟩; have HB1 := Aside0.mk hb; clear hb)
      have HS1 := Aside0.mk (cR.St.made HB1.out)
      have hlt1 : l1.length ≤ 9223372036854775807 := by omega
      generalize w1.heap.size + 1 = sb at HS1 ⊢
      generalize w1.heap.size = ob at HS1 ⊢
      generalize (w1.alloc _).alloc _ = w2 at HS1 ⊢
      go_loopg [11, 12, 26] k (fun gg s11 s12 s26 wr => ∃ (i : Nat) (out st : List Int) (deep : Int) (done : Bool), s11 = .int .i64 deep ∧ s12 = .bool done ∧ s26 = .int .i64 i ∧ i ≤ l1.length ∧ Aside0 (cR.St w ob sb out st wr) ∧ Aside0 (cR.readL l0 l1 gg i out st deep done = some (r1, r2)))
      case atStart => exact ⟨0, [], [], 0, false, rfl, rfl, rfl, Nat.zero_le _, HS1, H0⟩
      case round =>
        obtain ⟨i, out, st, deep, done, rfl, rfl, rfl, hi, HS, HL⟩ := hrel
        cases gk with
        | zero => exact absurd HL.out (by rw [cR.readL]; exact fun e => by cases e)
        | succ q =>
        have hL := HL.out
        rw [cR.readL] at hL
        clear HL
        have hbel : Below w.heap.size w wr := by obtain ⟨_, _, hv⟩ := HS.out; exact hv.below
        have HBE := Aside0.mk hbel
        by_cases ci : i < l1.length
        · rw [if_pos ci] at hL
          have ciz : ((i : Int) < (l1.length : Int)) = True := eq_true (by omega)
          have ci0 : (0 ≤ (i : Int)) = True := eq_true (by omega)
          obtain ⟨ad, eA, hcx⟩ := Kd.at_int HR1.out (i : Int) (by omega) (by omega)
          subst eA
          replace hcx := pw_cell_below hbel hcx
          rw [Int.toNat_natCast] at hcx
          clear hbel
          generalize hx : rd l1 (i : Nat) = x at hL hcx
          by_cases cd : done = (decide (x ≥ 100) || x == -1)
          · rw [if_pos cd] at hL
            have hL := Option.some.inj hL
            injection hL with h1 h2
            subst h1; subst h2
            by_cases x1 : x ≥ 100
            · have x1t : (100 ≤ x) = True := eq_true x1
              have x1d : decide (x ≥ 100) = true := decide_eq_true x1
              rw [x1d, Bool.true_or] at cd
              subst cd
              clear x1 x1d
              go_wp2
              go_ret2
              exact ⟨_, rfl, Kd.R_nil _ _ _ _ _, HBE.out⟩
            · have x1t : (100 ≤ x) = False := eq_false x1
              have x1d : decide (x ≥ 100) = false := decide_eq_false x1
              rw [x1d, Bool.false_or] at cd
              clear x1 x1d
              by_cases x2 : x = -1
              · have x2t : (x == -1) = true := by rw [beq_iff_eq]; exact x2
                rw [x2t] at cd
                subst cd
                clear x2
                go_wp2
                go_ret2
                exact ⟨_, rfl, Kd.R_nil _ _ _ _ _, HBE.out⟩
              · have x2t : (x == -1) = false := by rw [beq_eq_false_iff_ne]; exact x2
                rw [x2t] at cd
                subst cd
                clear x2
                go_wp2
                go_ret2
                exact ⟨_, rfl, Kd.R_nil _ _ _ _ _, HBE.out⟩
          · rw [if_neg cd] at hL
            by_cases cg : out.length < 1000 ∧ st.length < 1000 ∧ -1000 < deep ∧ deep < 1000
            · rw [if_neg (fun h => h cg)] at hL
              obtain ⟨g1, g2, g3, g4⟩ := cg
              obtain ⟨vo, vs, hv⟩ := HS.out
              obtain ⟨A, c, rfl⟩ := Kd.R_slice hv.rs
              obtain ⟨B, d, rfl⟩ := Kd.R_slice hv.ro
              have hq1 := (blk_cell hv.bs 0).trans rfl
              have hq2 := (blk_cell hv.bo 0).trans rfl
              have HV := Aside0.mk hv
              have ei : wrap64 ((i : Int) + 1) = (i : Int) + 1 := by unfold wrap64; omega
              clear hv
              by_cases x1 : x ≥ 100
              · rw [if_pos x1] at hL
                have HL := Aside0.mk hL
                have x1t : (100 ≤ x) = True := eq_true x1
                have cd' : done = false := by
                  cases done with
                  | false => rfl
                  | true => exact absurd (by simp [x1]) cd
                subst cd'
                clear hL x1 cd
                go_wp2_with (first
                  | ((with_reducible refine gate_builtin (b := .append) (xs := #[.tmp 87, .tmp 89]) rfl ?_); at_builtin; go_loud (refine Kd.R_append (Kd.int .i64) (w0 := w) w.heap.size rfl (.tmp 87) (.tmp 89) 23 3 (.int .i64 0) 8 rfl Try.underlying23 cR.info rfl (by decide) (by omega) (.slice B out.length d) out x _ (fun k => k ≠ ob ∧ k ≠ sb) (fun _ => False) rfl rfl ?xm ?xo ?xf HV.out.ro HV.out.below (below_size HV.out.below) ?xl ?_); (case xm => rfl); (case xo => exact fun k hk => hk.elim); (case xf => exact fun k hk => ⟨by have := blk_lt HV.out.bo; omega, by have := blk_lt HV.out.bs; omega⟩); (case xl => rw [Nat.mul_comm]; omega); intro v1 w1' hr1 hb1 hg1 hat1; have HSV := Aside0.mk (HV.out.pushO hg1 hb1 hr1 hat1); have hq3 := blk_grown HV.out.bo hg1 (fun e => (HV.out.ro.1 ob e.symm).1 rfl); (obtain ⟨B1, c1', ev⟩ := Kd.R_slice hr1); (generalize (out ++ [x]).length = ln at ev); subst ev; have hq4 := blk_frozen hq3; have hq5 := (blk_cell hq3 0).trans rfl; clear hr1 hb1 hg1 hat1 hq3))
                go_roundg q
                case measure => omega
                case rel => exact ⟨i + 1, _, st, deep, true, rfl, rfl, by go_num, by omega, ⟨_, _, HSV.out⟩, HL⟩
              · rw [if_neg x1] at hL
                have x1t : (100 ≤ x) = False := eq_false x1
                by_cases x2 : x = -1
                · rw [if_pos x2] at hL
                  have HL := Aside0.mk hL
                  have x2t : (x == -1) = true := by rw [beq_iff_eq]; exact x2
                  have cd' : done = false := by
                    cases done with
                    | false => rfl
                    | true => exact absurd (by simp [x2]) cd
                  have ed : wrap64 (deep + 1) = deep + 1 := by unfold wrap64; omega
                  subst cd'
                  clear hL x1 x2 cd
                  go_wp2_with (first
                    | ((with_reducible refine gate_builtin (b := .append) (xs := #[.tmp 94, .tmp 96]) rfl ?_); at_builtin; go_loud (refine Kd.R_append (Kd.int .i64) (w0 := w) w.heap.size rfl (.tmp 94) (.tmp 96) 23 3 (.int .i64 0) 8 rfl Try.underlying23 cR.info rfl (by decide) (by omega) (.slice A st.length c) st x _ (fun k => k ≠ ob ∧ k ≠ sb) (fun _ => False) rfl rfl ?xm ?xo ?xf HV.out.rs HV.out.below (below_size HV.out.below) ?xl ?_); (case xm => rfl); (case xo => exact fun k hk => hk.elim); (case xf => exact fun k hk => ⟨by have := blk_lt HV.out.bo; omega, by have := blk_lt HV.out.bs; omega⟩); (case xl => rw [Nat.mul_comm]; omega); intro v1 w1' hr1 hb1 hg1 hat1; have HSV := Aside0.mk (HV.out.pushS hg1 hb1 hr1 hat1); have hq3 := blk_grown HV.out.bs hg1 (fun e => (HV.out.rs.1 sb e.symm).2 rfl); (obtain ⟨B1, c1', ev⟩ := Kd.R_slice hr1); (generalize (st ++ [x]).length = ln at ev); subst ev; have hq4 := blk_frozen hq3; have hq5 := (blk_cell hq3 0).trans rfl; clear hr1 hb1 hg1 hat1 hq3))
                  go_roundg q
                  case measure => omega
                  case rel => exact ⟨i + 1, out, _, deep + 1, false, by go_num, rfl, by go_num, by omega, ⟨_, _, HSV.out⟩, HL⟩
                · rw [if_neg x2] at hL
                  have x2t : (x == -1) = false := by rw [beq_eq_false_iff_ne]; exact x2
                  have cd' : done = true := by
                    cases done with
                    | true => rfl
                    | false => exact absurd (by simp [x1, x2]) cd
                  subst cd'
                  have x3c := cd
                  clear cd x3c
                  by_cases x3 : x = -2
                  · rw [if_pos x3] at hL
                    have x3t : (x == -2) = true := by rw [beq_iff_eq]; exact x3
                    have ed : wrap64 (deep - 1) = deep - 1 := by unfold wrap64; omega
                    clear x1 x2 x3
                    by_cases c4 : deep - 1 < 0
                    · rw [if_pos c4] at hL
                      have hL := Option.some.inj hL
                      injection hL with h1 h2
                      subst h1; subst h2
                      have c4t : (deep - 1 < 0) = True := eq_true c4
                      have c4s : (deep < 1) = True := eq_true (by omega)
                      clear c4
                      go_wp2
                      go_ret2
                      exact ⟨_, rfl, Kd.R_nil _ _ _ _ _, HBE.out⟩
                    · rw [if_neg c4] at hL
                      have c4t : (deep - 1 < 0) = False := eq_false c4
                      have c4s : (deep < 1) = False := eq_false (by omega)
                      clear c4
                      cases hs : cR.shutL q out st with
                      | none => rw [hs] at hL; cases hL
                      | some p =>
                      obtain ⟨o2, s2⟩ := p
                      rw [hs] at hL
                      simp only [Option.bind_some] at hL
                      by_cases c5 : 0 < s2.length
                      · rw [if_pos c5] at hL
                        have HL := Aside0.mk hL
                        have HSH := Aside0.mk hs
                        clear hL hs HV hq1 hq2
                        go_wp2
                        go_loopg [] q (fun g2 wr2 => ∃ (o3 s3 : List Int), Aside0 (cR.St w ob sb o3 s3 wr2) ∧ Aside0 (cR.shutL g2 o3 s3 = some (o2, s2)))
                        case atStart => exact ⟨out, st, HS, HSH⟩
                        case round =>
                          obtain ⟨o3, s3, HS3, HE3⟩ := hrel
                          have hE := HE3.out
                          clear HE3
                          cases gk with
                          | zero => rw [cR.shutL] at hE; cases hE
                          | succ g2 =>
                          rw [cR.shutL] at hE
                          by_cases c6 : cR.top s3 = -1
                          · rw [if_pos c6] at hE
                            have hE := Option.some.inj hE
                            injection hE with h1 h2
                            subst h1; subst h2
                            have hbig : s3.length ≤ 9223372036854775807 := by
                              obtain ⟨vo3, vs3, hv3⟩ := HS3.out
                              obtain ⟨A3, c3, rfl⟩ := Kd.R_slice hv3.rs
                              exact (Kd.R_reads' hv3.rs).2.2.2.1
                            have ew : wrap64 ((s3.length : Int) - 1) = (s3.length : Int) - 1 := by unfold wrap64; omega
                            have p0 : 0 ≤ (s3.length : Int) - 1 := by omega
                            have c6t : (cR.top s3 == -1) = true := by rw [beq_iff_eq]; exact c6
                            go_wp2_with (first
                              | (refine (cR.top_calls HS3.out).mono ?_; rintro e w4 ⟨rfl, hs4⟩; rw [c6]; (obtain ⟨vo4, vs4, hv4⟩ := hs4); (obtain ⟨ad4, c4, rfl⟩ := Kd.R_slice1 hv4.rs c5); (obtain ⟨-, hc4, -⟩ := Kd.R_reads' hv4.rs); have hq6 := (blk_cell hv4.bs 0).trans rfl; have hq7 := blk_frozen hv4.bs; have HV4 := Aside0.mk hv4; clear hv4; have hcut := fun i hi => cut_to (P := Try.prog) (i := i) 23 3 .i64 Try.underlying23 hi (some ad4) s3.length c4 ((s3.length : Int) - 1) p0 (by omega) hc4))
                            go_roundg q
                            case measure => omega
                            case rel => exact ⟨i + 1, o3, _, deep - 1, true, by go_num, rfl, by go_num, by omega, ⟨_, _, HV4.out.cut rfl (Nat.sub_le _ _)⟩, HL⟩
                          · rw [if_neg c6] at hE
                            have c6t : (cR.top s3 == -1) = false := by rw [beq_eq_false_iff_ne]; exact c6
                            by_cases c7 : o3.length < 1000 ∧ 0 < s3.length
                            · rw [if_pos c7] at hE
                              have HE4 := Aside0.mk hE
                              clear hE
                              go_wp2_with (first
                                | (refine (cR.pop_calls HS4.out c7.2 c7.1).mono ?_; rintro e w5 ⟨rfl, hs5⟩; have HS5 := Aside0.mk hs5; clear hs5)
                                | (refine (cR.top_calls HS3.out).mono ?_; rintro e w4 ⟨rfl, hs4⟩; have HS4 := Aside0.mk hs4; clear hs4))
                              go_roundg g2
                              case measure => omega
                              case rel => exact ⟨_, _, HS5, HE4⟩
                            · rw [if_neg c7] at hE; cases hE
                      · rw [if_neg c5] at hL; cases hL
                  · rw [if_neg x3] at hL
                    have x3t : (x == -2) = false := by rw [beq_eq_false_iff_ne]; exact x3
                    clear x1 x2 x3
                    cases hs : cR.defL l0 x q out st with
                    | none => rw [hs] at hL; cases hL
                    | some p =>
                    obtain ⟨o2, s2⟩ := p
                    rw [hs] at hL
                    simp only [Option.bind_some] at hL
                    by_cases c5 : s2.length < 1000
                    · rw [if_pos c5] at hL
                      have HL := Aside0.mk hL
                      have HSH := Aside0.mk hs
                      clear hL hs HV hq1 hq2
                      go_wp2_with (refine (cR.top_calls HS.out).mono ?_; rintro e w4 ⟨rfl, hs4⟩; have HS4 := Aside0.mk hs4; clear hs4)
                      go_loopg [15] q (fun g2 s15 wr2 => ∃ (o3 s3 : List Int), s15 = .int .i64 (cR.top s3) ∧ Aside0 (cR.St w ob sb o3 s3 wr2) ∧ Aside0 (cR.defL l0 x g2 o3 s3 = some (o2, s2)))
                      case atStart => exact ⟨out, st, rfl, HS4, HSH⟩
                      case round =>
                        obtain ⟨o3, s3, rfl, HS3, HE3⟩ := hrel
                        have hE := HE3.out
                        clear HE3
                        cases gk with
                        | zero => rw [cR.defL] at hE; cases hE
                        | succ g2 =>
                        rw [cR.defL] at hE
                        by_cases c6 : cR.top s3 = -1
                        · rw [if_pos c6] at hE
                          have hE := Option.some.inj hE
                          injection hE with h1 h2
                          subst h1; subst h2
                          rw [c6]
                          clear c6
                          go_wp2
                          refine start_ (n := 36) (S := (fun _ => True)) (ds := []) #[false, false, false, false, false, false, false, false, false, false, false, false, false, false, false, false, false, false, false, false, false, false, false, false, false, false, false, false, false, false, false, false, false, false, false, false] (by kernel_rfl) rfl rfl (trivial) (fun hHeld => ?_)
                          refine take_ (i := 0) (N := some 40) (v := ?_) (a' := ?_) #[true, false, false, false, false, false, false, false, false, false, false, false, false, false, false, false, false, false, false, false, false, false, false, false, false, false, false, false, false, false, false, false, false, false, false, false] rfl rfl (by kernel_rfl) (fun _ _ _ h_ => h_) (Or.inl ⟨by rfl, ?_⟩) hHeld ?_ ?_
                          rotate_left
                          · intro w_ hSw
                            (try dsimp only at hSw)
                            go_simp
                            first | done | with_reducible rfl
                          rotate_left
                          · simp only [Act.put, List.setIfInBounds_toArray, List.set_cons_zero, List.set_cons_succ]
                            rfl
                          refine take_ (i := 1) (N := some 41) (v := ?_) (a' := ?_) #[true, true, false, false, false, false, false, false, false, false, false, false, false, false, false, false, false, false, false, false, false, false, false, false, false, false, false, false, false, false, false, false, false, false, false, false] rfl rfl (by kernel_rfl) (fun _ _ _ h_ => h_) (Or.inl ⟨by rfl, ?_⟩) hHeld ?_ ?_
                          rotate_left
                          · intro w_ hSw
                            (try dsimp only at hSw)
                            go_simp
                            first | done | with_reducible rfl
                          rotate_left
                          · simp only [Act.put, List.setIfInBounds_toArray, List.set_cons_zero, List.set_cons_succ]
                            rfl
                          refine take_ (i := 2) (N := some 42) (v := ?_) (a' := ?_) #[true, true, true, false, false, false, false, false, false, false, false, false, false, false, false, false, false, false, false, false, false, false, false, false, false, false, false, false, false, false, false, false, false, false, false, false] rfl rfl (by kernel_rfl) (fun _ _ _ h_ => h_) (Or.inl ⟨by rfl, ?_⟩) hHeld ?_ ?_
                          rotate_left
                          · intro w_ hSw
                            (try dsimp only at hSw)
                            go_simp
                            first | done | with_reducible rfl
                          rotate_left
                          · simp only [Act.put, List.setIfInBounds_toArray, List.set_cons_zero, List.set_cons_succ]
                            rfl
                          refine take_ (i := 3) (N := some 43) (v := undef) (a' := ?_) #[true, true, true, true, false, false, false, false, false, false, false, false, false, false, false, false, false, false, false, false, false, false, false, false, false, false, false, false, false, false, false, false, false, false, false, false] rfl rfl (by kernel_rfl) (fun _ _ _ h_ => h_) (Or.inr ⟨by rfl, rfl⟩) hHeld ?_ ?_
                          rotate_left
                          · simp only [Act.put, List.setIfInBounds_toArray, List.set_cons_zero, List.set_cons_succ]
                            rfl
                          refine take_ (i := 4) (N := some 44) (v := undef) (a' := ?_) #[true, true, true, true, true, false, false, false, false, false, false, false, false, false, false, false, false, false, false, false, false, false, false, false, false, false, false, false, false, false, false, false, false, false, false, false] rfl rfl (by kernel_rfl) (fun _ _ _ h_ => h_) (Or.inr ⟨by rfl, rfl⟩) hHeld ?_ ?_
                          rotate_left
                          · simp only [Act.put, List.setIfInBounds_toArray, List.set_cons_zero, List.set_cons_succ]
                            rfl
                          refine take_ (i := 5) (N := some 45) (v := undef) (a' := ?_) #[true, true, true, true, true, true, false, false, false, false, false, false, false, false, false, false, false, false, false, false, false, false, false, false, false, false, false, false, false, false, false, false, false, false, false, false] rfl rfl (by kernel_rfl) (fun _ _ _ h_ => h_) (Or.inr ⟨by rfl, rfl⟩) hHeld ?_ ?_
                          rotate_left
                          · simp only [Act.put, List.setIfInBounds_toArray, List.set_cons_zero, List.set_cons_succ]
                            rfl
                          refine take_ (i := 6) (N := some 46) (v := undef) (a' := ?_) #[true, true, true, true, true, true, true, false, false, false, false, false, false, false, false, false, false, false, false, false, false, false, false, false, false, false, false, false, false, false, false, false, false, false, false, false] rfl rfl (by kernel_rfl) (fun _ _ _ h_ => h_) (Or.inr ⟨by rfl, rfl⟩) hHeld ?_ ?_
                          rotate_left
                          · simp only [Act.put, List.setIfInBounds_toArray, List.set_cons_zero, List.set_cons_succ]
                            rfl
                          refine take_ (i := 7) (N := some 47) (v := undef) (a' := ?_) #[true, true, true, true, true, true, true, true, false, false, false, false, false, false, false, false, false, false, false, false, false, false, false, false, false, false, false, false, false, false, false, false, false, false, false, false] rfl rfl (by kernel_rfl) (fun _ _ _ h_ => h_) (Or.inr ⟨by rfl, rfl⟩) hHeld ?_ ?_
                          rotate_left
                          · simp only [Act.put, List.setIfInBounds_toArray, List.set_cons_zero, List.set_cons_succ]
                            rfl
                          refine take_ (i := 8) (N := some 48) (v := undef) (a' := ?_) #[true, true, true, true, true, true, true, true, true, false, false, false, false, false, false, false, false, false, false, false, false, false, false, false, false, false, false, false, false, false, false, false, false, false, false, false] rfl rfl (by kernel_rfl) (fun _ _ _ h_ => h_) (Or.inr ⟨by rfl, rfl⟩) hHeld ?_ ?_
                          rotate_left
                          · simp only [Act.put, List.setIfInBounds_toArray, List.set_cons_zero, List.set_cons_succ]
                            rfl
                          refine take_ (i := 9) (N := some 49) (v := undef) (a' := ?_) #[true, true, true, true, true, true, true, true, true, true, false, false, false, false, false, false, false, false, false, false, false, false, false, false, false, false, false, false, false, false, false, false, false, false, false, false] rfl rfl (by kernel_rfl) (fun _ _ _ h_ => h_) (Or.inr ⟨by rfl, rfl⟩) hHeld ?_ ?_
                          rotate_left
                          · simp only [Act.put, List.setIfInBounds_toArray, List.set_cons_zero, List.set_cons_succ]
                            rfl
                          refine take_ (i := 10) (N := some 50) (v := undef) (a' := ?_) #[true, true, true, true, true, true, true, true, true, true, true, false, false, false, false, false, false, false, false, false, false, false, false, false, false, false, false, false, false, false, false, false, false, false, false, false] rfl rfl (by kernel_rfl) (fun _ _ _ h_ => h_) (Or.inr ⟨by rfl, rfl⟩) hHeld ?_ ?_
                          rotate_left
                          · simp only [Act.put, List.setIfInBounds_toArray, List.set_cons_zero, List.set_cons_succ]
                            rfl
                          refine take_ (i := 11) (N := some 51) (v := undef) (a' := ?_) #[true, true, true, true, true, true, true, true, true, true, true, true, false, false, false, false, false, false, false, false, false, false, false, false, false, false, false, false, false, false, false, false, false, false, false, false] rfl rfl (by kernel_rfl) (fun _ _ _ h_ => h_) (Or.inr ⟨by rfl, rfl⟩) hHeld ?_ ?_
                          rotate_left
                          · simp only [Act.put, List.setIfInBounds_toArray, List.set_cons_zero, List.set_cons_succ]
                            rfl
                          refine take_ (i := 12) (N := some 52) (v := undef) (a' := ?_) #[true, true, true, true, true, true, true, true, true, true, true, true, true, false, false, false, false, false, false, false, false, false, false, false, false, false, false, false, false, false, false, false, false, false, false, false] rfl rfl (by kernel_rfl) (fun _ _ _ h_ => h_) (Or.inr ⟨by rfl, rfl⟩) hHeld ?_ ?_
                          rotate_left
                          · simp only [Act.put, List.setIfInBounds_toArray, List.set_cons_zero, List.set_cons_succ]
                            rfl
                          refine take_ (i := 13) (N := some 53) (v := undef) (a' := ?_) #[true, true, true, true, true, true, true, true, true, true, true, true, true, true, false, false, false, false, false, false, false, false, false, false, false, false, false, false, false, false, false, false, false, false, false, false] rfl rfl (by kernel_rfl) (fun _ _ _ h_ => h_) (Or.inr ⟨by rfl, rfl⟩) hHeld ?_ ?_
                          rotate_left
                          · simp only [Act.put, List.setIfInBounds_toArray, List.set_cons_zero, List.set_cons_succ]
                            rfl
                          refine take_ (i := 14) (N := some 54) (v := undef) (a' := ?_) #[true, true, true, true, true, true, true, true, true, true, true, true, true, true, true, false, false, false, false, false, false, false, false, false, false, false, false, false, false, false, false, false, false, false, false, false] rfl rfl (by kernel_rfl) (fun _ _ _ h_ => h_) (Or.inr ⟨by rfl, rfl⟩) hHeld ?_ ?_
                          rotate_left
                          · simp only [Act.put, List.setIfInBounds_toArray, List.set_cons_zero, List.set_cons_succ]
                            rfl
                          refine take_ (i := 15) (N := some 55) (v := undef) (a' := ?_) #[true, true, true, true, true, true, true, true, true, true, true, true, true, true, true, true, false, false, false, false, false, false, false, false, false, false, false, false, false, false, false, false, false, false, false, false] rfl rfl (by kernel_rfl) (fun _ _ _ h_ => h_) (Or.inr ⟨by rfl, rfl⟩) hHeld ?_ ?_
                          rotate_left
                          · simp only [Act.put, List.setIfInBounds_toArray, List.set_cons_zero, List.set_cons_succ]
                            rfl
                          refine take_ (i := 16) (N := some 56) (v := undef) (a' := ?_) #[true, true, true, true, true, true, true, true, true, true, true, true, true, true, true, true, true, false, false, false, false, false, false, false, false, false, false, false, false, false, false, false, false, false, false, false] rfl rfl (by kernel_rfl) (fun _ _ _ h_ => h_) (Or.inr ⟨by rfl, rfl⟩) hHeld ?_ ?_
                          rotate_left
                          · simp only [Act.put, List.setIfInBounds_toArray, List.set_cons_zero, List.set_cons_succ]
                            rfl
                          refine take_ (i := 17) (N := some 57) (v := undef) (a' := ?_) #[true, true, true, true, true, true, true, true, true, true, true, true, true, true, true, true, true, true, false, false, false, false, false, false, false, false, false, false, false, false, false, false, false, false, false, false] rfl rfl (by kernel_rfl) (fun _ _ _ h_ => h_) (Or.inr ⟨by rfl, rfl⟩) hHeld ?_ ?_
                          rotate_left
                          · simp only [Act.put, List.setIfInBounds_toArray, List.set_cons_zero, List.set_cons_succ]
                            rfl
                          refine take_ (i := 18) (N := some 58) (v := undef) (a' := ?_) #[true, true, true, true, true, true, true, true, true, true, true, true, true, true, true, true, true, true, true, false, false, false, false, false, false, false, false, false, false, false, false, false, false, false, false, false] rfl rfl (by kernel_rfl) (fun _ _ _ h_ => h_) (Or.inr ⟨by rfl, rfl⟩) hHeld ?_ ?_
                          rotate_left
                          · simp only [Act.put, List.setIfInBounds_toArray, List.set_cons_zero, List.set_cons_succ]
                            rfl
                          refine take_ (i := 19) (N := some 59) (v := undef) (a' := ?_) #[true, true, true, true, true, true, true, true, true, true, true, true, true, true, true, true, true, true, true, true, false, false, false, false, false, false, false, false, false, false, false, false, false, false, false, false] rfl rfl (by kernel_rfl) (fun _ _ _ h_ => h_) (Or.inr ⟨by rfl, rfl⟩) hHeld ?_ ?_
                          rotate_left
                          · simp only [Act.put, List.setIfInBounds_toArray, List.set_cons_zero, List.set_cons_succ]
                            rfl
                          refine take_ (i := 20) (N := some 60) (v := undef) (a' := ?_) #[true, true, true, true, true, true, true, true, true, true, true, true, true, true, true, true, true, true, true, true, true, false, false, false, false, false, false, false, false, false, false, false, false, false, false, false] rfl rfl (by kernel_rfl) (fun _ _ _ h_ => h_) (Or.inr ⟨by rfl, rfl⟩) hHeld ?_ ?_
                          rotate_left
                          · simp only [Act.put, List.setIfInBounds_toArray, List.set_cons_zero, List.set_cons_succ]
                            rfl
                          refine take_ (i := 21) (N := some 61) (v := undef) (a' := ?_) #[true, true, true, true, true, true, true, true, true, true, true, true, true, true, true, true, true, true, true, true, true, true, false, false, false, false, false, false, false, false, false, false, false, false, false, false] rfl rfl (by kernel_rfl) (fun _ _ _ h_ => h_) (Or.inr ⟨by rfl, rfl⟩) hHeld ?_ ?_
                          rotate_left
                          · simp only [Act.put, List.setIfInBounds_toArray, List.set_cons_zero, List.set_cons_succ]
                            rfl
                          refine take_ (i := 22) (N := some 62) (v := undef) (a' := ?_) #[true, true, true, true, true, true, true, true, true, true, true, true, true, true, true, true, true, true, true, true, true, true, true, false, false, false, false, false, false, false, false, false, false, false, false, false] rfl rfl (by kernel_rfl) (fun _ _ _ h_ => h_) (Or.inr ⟨by rfl, rfl⟩) hHeld ?_ ?_
                          rotate_left
                          · simp only [Act.put, List.setIfInBounds_toArray, List.set_cons_zero, List.set_cons_succ]
                            rfl
                          refine take_ (i := 23) (N := some 63) (v := undef) (a' := ?_) #[true, true, true, true, true, true, true, true, true, true, true, true, true, true, true, true, true, true, true, true, true, true, true, true, false, false, false, false, false, false, false, false, false, false, false, false] rfl rfl (by kernel_rfl) (fun _ _ _ h_ => h_) (Or.inr ⟨by rfl, rfl⟩) hHeld ?_ ?_
                          rotate_left
                          · simp only [Act.put, List.setIfInBounds_toArray, List.set_cons_zero, List.set_cons_succ]
                            rfl
                          refine take_ (i := 24) (N := some 64) (v := undef) (a' := ?_) #[true, true, true, true, true, true, true, true, true, true, true, true, true, true, true, true, true, true, true, true, true, true, true, true, true, false, false, false, false, false, false, false, false, false, false, false] rfl rfl (by kernel_rfl) (fun _ _ _ h_ => h_) (Or.inr ⟨by rfl, rfl⟩) hHeld ?_ ?_
                          rotate_left
                          · simp only [Act.put, List.setIfInBounds_toArray, List.set_cons_zero, List.set_cons_succ]
                            rfl
                          refine take_ (i := 25) (N := some 65) (v := undef) (a' := ?_) #[true, true, true, true, true, true, true, true, true, true, true, true, true, true, true, true, true, true, true, true, true, true, true, true, true, true, false, false, false, false, false, false, false, false, false, false] rfl rfl (by kernel_rfl) (fun _ _ _ h_ => h_) (Or.inr ⟨by rfl, rfl⟩) hHeld ?_ ?_
                          rotate_left
                          · simp only [Act.put, List.setIfInBounds_toArray, List.set_cons_zero, List.set_cons_succ]
                            rfl
                          refine take_ (i := 26) (N := some 66) (v := undef) (a' := ?_) #[true, true, true, true, true, true, true, true, true, true, true, true, true, true, true, true, true, true, true, true, true, true, true, true, true, true, true, false, false, false, false, false, false, false, false, false] rfl rfl (by kernel_rfl) (fun _ _ _ h_ => h_) (Or.inr ⟨by rfl, rfl⟩) hHeld ?_ ?_
                          rotate_left
                          · simp only [Act.put, List.setIfInBounds_toArray, List.set_cons_zero, List.set_cons_succ]
                            rfl
                          refine take_ (i := 27) (N := some 67) (v := undef) (a' := ?_) #[true, true, true, true, true, true, true, true, true, true, true, true, true, true, true, true, true, true, true, true, true, true, true, true, true, true, true, true, false, false, false, false, false, false, false, false] rfl rfl (by kernel_rfl) (fun _ _ _ h_ => h_) (Or.inr ⟨by rfl, rfl⟩) hHeld ?_ ?_
                          rotate_left
                          · simp only [Act.put, List.setIfInBounds_toArray, List.set_cons_zero, List.set_cons_succ]
                            rfl
                          refine take_ (i := 28) (N := some 68) (v := undef) (a' := ?_) #[true, true, true, true, true, true, true, true, true, true, true, true, true, true, true, true, true, true, true, true, true, true, true, true, true, true, true, true, true, false, false, false, false, false, false, false] rfl rfl (by kernel_rfl) (fun _ _ _ h_ => h_) (Or.inr ⟨by rfl, rfl⟩) hHeld ?_ ?_
                          rotate_left
                          · simp only [Act.put, List.setIfInBounds_toArray, List.set_cons_zero, List.set_cons_succ]
                            rfl
                          refine take_ (i := 29) (N := some 69) (v := undef) (a' := ?_) #[true, true, true, true, true, true, true, true, true, true, true, true, true, true, true, true, true, true, true, true, true, true, true, true, true, true, true, true, true, true, false, false, false, false, false, false] rfl rfl (by kernel_rfl) (fun _ _ _ h_ => h_) (Or.inr ⟨by rfl, rfl⟩) hHeld ?_ ?_
                          rotate_left
                          · simp only [Act.put, List.setIfInBounds_toArray, List.set_cons_zero, List.set_cons_succ]
                            rfl
                          refine take_ (i := 30) (N := some 70) (v := undef) (a' := ?_) #[true, true, true, true, true, true, true, true, true, true, true, true, true, true, true, true, true, true, true, true, true, true, true, true, true, true, true, true, true, true, true, false, false, false, false, false] rfl rfl (by kernel_rfl) (fun _ _ _ h_ => h_) (Or.inr ⟨by rfl, rfl⟩) hHeld ?_ ?_
                          rotate_left
                          · simp only [Act.put, List.setIfInBounds_toArray, List.set_cons_zero, List.set_cons_succ]
                            rfl
                          refine take_ (i := 31) (N := some 71) (v := undef) (a' := ?_) #[true, true, true, true, true, true, true, true, true, true, true, true, true, true, true, true, true, true, true, true, true, true, true, true, true, true, true, true, true, true, true, true, false, false, false, false] rfl rfl (by kernel_rfl) (fun _ _ _ h_ => h_) (Or.inr ⟨by rfl, rfl⟩) hHeld ?_ ?_
                          rotate_left
                          · simp only [Act.put, List.setIfInBounds_toArray, List.set_cons_zero, List.set_cons_succ]
                            rfl
                          refine take_ (i := 32) (N := some 72) (v := undef) (a' := ?_) #[true, true, true, true, true, true, true, true, true, true, true, true, true, true, true, true, true, true, true, true, true, true, true, true, true, true, true, true, true, true, true, true, true, false, false, false] rfl rfl (by kernel_rfl) (fun _ _ _ h_ => h_) (Or.inr ⟨by rfl, rfl⟩) hHeld ?_ ?_
                          rotate_left
                          · simp only [Act.put, List.setIfInBounds_toArray, List.set_cons_zero, List.set_cons_succ]
                            rfl
                          refine take_ (i := 33) (N := some 73) (v := undef) (a' := ?_) #[true, true, true, true, true, true, true, true, true, true, true, true, true, true, true, true, true, true, true, true, true, true, true, true, true, true, true, true, true, true, true, true, true, true, false, false] rfl rfl (by kernel_rfl) (fun _ _ _ h_ => h_) (Or.inr ⟨by rfl, rfl⟩) hHeld ?_ ?_
                          rotate_left
                          · simp only [Act.put, List.setIfInBounds_toArray, List.set_cons_zero, List.set_cons_succ]
                            rfl
                          refine take_ (i := 34) (N := some 74) (v := undef) (a' := ?_) #[true, true, true, true, true, true, true, true, true, true, true, true, true, true, true, true, true, true, true, true, true, true, true, true, true, true, true, true, true, true, true, true, true, true, true, false] rfl rfl (by kernel_rfl) (fun _ _ _ h_ => h_) (Or.inr ⟨by rfl, rfl⟩) hHeld ?_ ?_
                          rotate_left
                          · simp only [Act.put, List.setIfInBounds_toArray, List.set_cons_zero, List.set_cons_succ]
                            rfl
                          refine take_ (i := 35) (N := some 75) (v := ?_) (a' := ?_) #[true, true, true, true, true, true, true, true, true, true, true, true, true, true, true, true, true, true, true, true, true, true, true, true, true, true, true, true, true, true, true, true, true, true, true, true] rfl rfl (by kernel_rfl) (fun _ _ _ h_ => h_) (Or.inl ⟨by rfl, ?_⟩) hHeld ?_ ?_
                          rotate_left
                          · intro w_ hSw
                            (try dsimp only at hSw)
                            go_simp
                            first | done | with_reducible rfl
                          rotate_left
                          · simp only [Act.put, List.setIfInBounds_toArray, List.set_cons_zero, List.set_cons_succ]
                            rfl
                          refine done_ (by kernel_rfl) ?_
                          replace HS3 := Aside0.mk (show cR.St w ob sb o3 s3 _ from (by obtain ⟨vo3, vs3, hv3⟩ := HS3.out; exact ⟨_, _, hv3.kept (cR.drew1 _)⟩))
                          generalize World.drew _ = w5 at HS3 ⊢
                          obtain ⟨vo, vs, hv⟩ := HS3.out
                          obtain ⟨A, c, rfl⟩ := Kd.R_slice hv.rs
                          obtain ⟨B, d, rfl⟩ := Kd.R_slice hv.ro
                          have hq1 := (blk_cell hv.bs 0).trans rfl
                          have hq2 := (blk_cell hv.bo 0).trans rfl
                          have HV := Aside0.mk hv
                          clear hv
                          go_wp2_with (first
                            | ((with_reducible refine gate_builtin (b := .append) (xs := #[.tmp 80, .tmp 82]) rfl ?_); at_builtin; go_loud (refine Kd.R_append (Kd.int .i64) (w0 := w) w.heap.size rfl (.tmp 80) (.tmp 82) 23 3 (.int .i64 0) 8 rfl Try.underlying23 cR.info rfl (by decide) (by omega) (.slice A s3.length c) s3 x _ (fun k => k ≠ ob ∧ k ≠ sb) (fun _ => False) rfl rfl ?xm ?xo ?xf HV.out.rs HV.out.below (below_size HV.out.below) ?xl ?_); (case xm => rfl); (case xo => exact fun k hk => hk.elim); (case xf => exact fun k hk => ⟨by have := blk_lt HV.out.bo; omega, by have := blk_lt HV.out.bs; omega⟩); (case xl => rw [Nat.mul_comm]; omega); intro v1 w1' hr1 hb1 hg1 hat1; have HSV := Aside0.mk (HV.out.pushS hg1 hb1 hr1 hat1); have hq3 := blk_grown HV.out.bs hg1 (fun e => (HV.out.rs.1 sb e.symm).2 rfl); (obtain ⟨B1, c1', ev⟩ := Kd.R_slice hr1); (generalize (s3 ++ [x]).length = ln at ev); subst ev; have hq4 := blk_frozen hq3; have hq5 := (blk_cell hq3 0).trans rfl; clear hr1 hb1 hg1 hat1 hq3))
                          go_roundg q
                          case measure => omega
                          case rel => exact ⟨i + 1, o3, _, deep, false, rfl, rfl, by go_num, by omega, ⟨_, _, HSV.out⟩, HL⟩
                        · rw [if_neg c6] at hE
                          by_cases c7 : 0 ≤ cR.top s3 ∧ cR.top s3 < (l0.length : Int) ∧ 0 ≤ x ∧ x < (l0.length : Int) ∧ o3.length < 1000 ∧ 0 < s3.length
                          · rw [if_pos c7] at hE
                            rw [cR.more] at hE
                            obtain ⟨vo3, vs3, hv3⟩ := HS3.out
                            have hbel3 := hv3.below
                            clear hv3
                            obtain ⟨adx, rfl, hy0, hy1⟩ := at_T94 HR0.out (cR.top s3) c7.1 c7.2.1
                            obtain ⟨adx', eA', hx0, hx1⟩ := at_T94 HR0.out x c7.2.2.1 c7.2.2.2.1
                            obtain rfl := Option.some.inj eA'
                            replace hy0 := pw_cell_below hbel3 hy0
                            replace hy1 := pw_cell_below hbel3 hy1
                            replace hx0 := pw_cell_below hbel3 hx0
                            replace hx1 := pw_cell_below hbel3 hx1
                            clear hbel3 eA'
                            have HE5 := Aside0.mk hE
                            generalize hya0 : (rd_T94 l0 (cR.top s3)).f0 = a0 at hE hy0
                            generalize hyb0 : (rd_T94 l0 x).f0 = b0 at hE hx0
                            generalize hya1 : (rd_T94 l0 (cR.top s3)).f1 = a1 at hy1
                            generalize hyb1 : (rd_T94 l0 x).f1 = b1 at hE hx1
                            have p0 : (0 ≤ cR.top s3) = True := eq_true c7.1
                            have p1 : (cR.top s3 < (l0.length : Int)) = True := eq_true c7.2.1
                            have p2 : (0 ≤ x) = True := eq_true c7.2.2.1
                            have p3 : (x < (l0.length : Int)) = True := eq_true c7.2.2.2.1
                            have p4 : (cR.top s3 == -1) = false := by rw [beq_eq_false_iff_ne]; exact c6
                            have p4n : (cR.top s3 != -1) = true := by rw [bne_iff_ne]; exact c6
                            clear HE5 hya0 hyb0 hya1 hyb1
                            have C7 := Aside0.mk c7
                            generalize hyt : cR.top s3 = y at *
                            have HY := Aside0.mk hyt
                            have HE := Aside0.mk hE
                            clear c6 c7 hyt hE
                            go_wp2
                            by_cases d1 : b0 < a0
                            · have d1t : (b0 < a0) = True := eq_true d1
                              have hE := HE.out
                              rw [if_pos (by simp [d1])] at hE
                              have HE4 := Aside0.mk hE
                              clear hE HE d1
                              refine start_ (n := 36) (S := (fun w' => w'.cell? (adx.add (y.toNat * 2)) = some (.int .i64 a0) ∧ w'.cell? ⟨(adx.add (y.toNat * 2)).block, (adx.add (y.toNat * 2)).off + 1, none⟩ = some (.bool a1) ∧ w'.cell? (adx.add (x.toNat * 2)) = some (.int .i64 b0) ∧ w'.cell? ⟨(adx.add (x.toNat * 2)).block, (adx.add (x.toNat * 2)).off + 1, none⟩ = some (.bool b1))) (ds := []) #[false, false, false, false, false, false, false, false, false, false, false, false, false, false, false, false, false, false, false, false, false, false, false, false, false, false, false, false, false, false, false, false, false, false, false, false] (by kernel_rfl) rfl rfl (⟨hy0, hy1, hx0, hx1⟩) (fun hHeld => ?_)
                              refine take_ (i := 0) (N := some 40) (v := ?_) (a' := ?_) #[true, false, false, false, false, false, false, false, false, false, false, false, false, false, false, false, false, false, false, false, false, false, false, false, false, false, false, false, false, false, false, false, false, false, false, false] rfl rfl (by kernel_rfl) (fun _ _ _ h_ => h_) (Or.inl ⟨by rfl, ?_⟩) hHeld ?_ ?_
                              rotate_left
                              · intro w_ hSw
                                (obtain ⟨hz0, hz1, hz2, hz3⟩ := hSw)
                                go_simp
                                first | done | with_reducible rfl
                              rotate_left
                              · simp only [Act.put, List.setIfInBounds_toArray, List.set_cons_zero, List.set_cons_succ]
                                rfl
                              refine take_ (i := 1) (N := some 41) (v := ?_) (a' := ?_) #[true, true, false, false, false, false, false, false, false, false, false, false, false, false, false, false, false, false, false, false, false, false, false, false, false, false, false, false, false, false, false, false, false, false, false, false] rfl rfl (by kernel_rfl) (fun _ _ _ h_ => h_) (Or.inl ⟨by rfl, ?_⟩) hHeld ?_ ?_
                              rotate_left
                              · intro w_ hSw
                                (obtain ⟨hz0, hz1, hz2, hz3⟩ := hSw)
                                go_simp
                                first | done | with_reducible rfl
                              rotate_left
                              · simp only [Act.put, List.setIfInBounds_toArray, List.set_cons_zero, List.set_cons_succ]
                                rfl
                              refine take_ (i := 2) (N := some 42) (v := ?_) (a' := ?_) #[true, true, true, false, false, false, false, false, false, false, false, false, false, false, false, false, false, false, false, false, false, false, false, false, false, false, false, false, false, false, false, false, false, false, false, false] rfl rfl (by kernel_rfl) (fun _ _ _ h_ => h_) (Or.inl ⟨by rfl, ?_⟩) hHeld ?_ ?_
                              rotate_left
                              · intro w_ hSw
                                (obtain ⟨hz0, hz1, hz2, hz3⟩ := hSw)
                                go_simp
                                first | done | with_reducible rfl
                              rotate_left
                              · simp only [Act.put, List.setIfInBounds_toArray, List.set_cons_zero, List.set_cons_succ]
                                rfl
                              refine take_ (i := 3) (N := some 43) (v := ?_) (a' := ?_) #[true, true, true, true, false, false, false, false, false, false, false, false, false, false, false, false, false, false, false, false, false, false, false, false, false, false, false, false, false, false, false, false, false, false, false, false] rfl rfl (by kernel_rfl) (fun _ _ _ h_ => h_) (Or.inl ⟨by rfl, ?_⟩) hHeld ?_ ?_
                              rotate_left
                              · intro w_ hSw
                                (obtain ⟨hz0, hz1, hz2, hz3⟩ := hSw)
                                go_simp
                                first | done | with_reducible rfl
                              rotate_left
                              · simp only [Act.put, List.setIfInBounds_toArray, List.set_cons_zero, List.set_cons_succ]
                                rfl
                              refine take_ (i := 4) (N := some 44) (v := ?_) (a' := ?_) #[true, true, true, true, true, false, false, false, false, false, false, false, false, false, false, false, false, false, false, false, false, false, false, false, false, false, false, false, false, false, false, false, false, false, false, false] rfl rfl (by kernel_rfl) (fun _ _ _ h_ => h_) (Or.inl ⟨by rfl, ?_⟩) hHeld ?_ ?_
                              rotate_left
                              · intro w_ hSw
                                (obtain ⟨hz0, hz1, hz2, hz3⟩ := hSw)
                                go_simp
                                first | done | with_reducible rfl
                              rotate_left
                              · simp only [Act.put, List.setIfInBounds_toArray, List.set_cons_zero, List.set_cons_succ]
                                rfl
                              refine take_ (i := 5) (N := some 45) (v := ?_) (a' := ?_) #[true, true, true, true, true, true, false, false, false, false, false, false, false, false, false, false, false, false, false, false, false, false, false, false, false, false, false, false, false, false, false, false, false, false, false, false] rfl rfl (by kernel_rfl) (fun _ _ _ h_ => h_) (Or.inl ⟨by rfl, ?_⟩) hHeld ?_ ?_
                              rotate_left
                              · intro w_ hSw
                                (obtain ⟨hz0, hz1, hz2, hz3⟩ := hSw)
                                go_simp
                                first | done | with_reducible rfl
                              rotate_left
                              · simp only [Act.put, List.setIfInBounds_toArray, List.set_cons_zero, List.set_cons_succ]
                                rfl
                              refine take_ (i := 6) (N := some 46) (v := ?_) (a' := ?_) #[true, true, true, true, true, true, true, false, false, false, false, false, false, false, false, false, false, false, false, false, false, false, false, false, false, false, false, false, false, false, false, false, false, false, false, false] rfl rfl (by kernel_rfl) (fun _ _ _ h_ => h_) (Or.inl ⟨by rfl, ?_⟩) hHeld ?_ ?_
                              rotate_left
                              · intro w_ hSw
                                (obtain ⟨hz0, hz1, hz2, hz3⟩ := hSw)
                                go_simp
                                first | done | with_reducible rfl
                              rotate_left
                              · simp only [Act.put, List.setIfInBounds_toArray, List.set_cons_zero, List.set_cons_succ]
                                rfl
                              refine take_ (i := 7) (N := some 47) (v := ?_) (a' := ?_) #[true, true, true, true, true, true, true, true, false, false, false, false, false, false, false, false, false, false, false, false, false, false, false, false, false, false, false, false, false, false, false, false, false, false, false, false] rfl rfl (by kernel_rfl) (fun _ _ _ h_ => h_) (Or.inl ⟨by rfl, ?_⟩) hHeld ?_ ?_
                              rotate_left
                              · intro w_ hSw
                                (obtain ⟨hz0, hz1, hz2, hz3⟩ := hSw)
                                go_simp
                                first | done | with_reducible rfl
                              rotate_left
                              · simp only [Act.put, List.setIfInBounds_toArray, List.set_cons_zero, List.set_cons_succ]
                                rfl
                              refine take_ (i := 8) (N := some 48) (v := ?_) (a' := ?_) #[true, true, true, true, true, true, true, true, true, false, false, false, false, false, false, false, false, false, false, false, false, false, false, false, false, false, false, false, false, false, false, false, false, false, false, false] rfl rfl (by kernel_rfl) (fun _ _ _ h_ => h_) (Or.inl ⟨by rfl, ?_⟩) hHeld ?_ ?_
                              rotate_left
                              · intro w_ hSw
                                (obtain ⟨hz0, hz1, hz2, hz3⟩ := hSw)
                                go_simp
                                first | done | with_reducible rfl
                              rotate_left
                              · simp only [Act.put, List.setIfInBounds_toArray, List.set_cons_zero, List.set_cons_succ]
                                rfl
                              refine take_ (i := 9) (N := some 49) (v := ?_) (a' := ?_) #[true, true, true, true, true, true, true, true, true, true, false, false, false, false, false, false, false, false, false, false, false, false, false, false, false, false, false, false, false, false, false, false, false, false, false, false] rfl rfl (by kernel_rfl) (fun _ _ _ h_ => h_) (Or.inl ⟨by rfl, ?_⟩) hHeld ?_ ?_
                              rotate_left
                              · intro w_ hSw
                                (obtain ⟨hz0, hz1, hz2, hz3⟩ := hSw)
                                go_simp
                                first | done | with_reducible rfl
                              rotate_left
                              · simp only [Act.put, List.setIfInBounds_toArray, List.set_cons_zero, List.set_cons_succ]
                                rfl
                              refine take_ (i := 10) (N := some 50) (v := ?_) (a' := ?_) #[true, true, true, true, true, true, true, true, true, true, true, false, false, false, false, false, false, false, false, false, false, false, false, false, false, false, false, false, false, false, false, false, false, false, false, false] rfl rfl (by kernel_rfl) (fun _ _ _ h_ => h_) (Or.inl ⟨by rfl, ?_⟩) hHeld ?_ ?_
                              rotate_left
                              · intro w_ hSw
                                (obtain ⟨hz0, hz1, hz2, hz3⟩ := hSw)
                                go_simp
                                first | done | with_reducible rfl
                              rotate_left
                              · simp only [Act.put, List.setIfInBounds_toArray, List.set_cons_zero, List.set_cons_succ]
                                rfl
                              refine take_ (i := 11) (N := some 51) (v := ?_) (a' := ?_) #[true, true, true, true, true, true, true, true, true, true, true, true, false, false, false, false, false, false, false, false, false, false, false, false, false, false, false, false, false, false, false, false, false, false, false, false] rfl rfl (by kernel_rfl) (fun _ _ _ h_ => h_) (Or.inl ⟨by rfl, ?_⟩) hHeld ?_ ?_
                              rotate_left
                              · intro w_ hSw
                                (obtain ⟨hz0, hz1, hz2, hz3⟩ := hSw)
                                go_simp
                                first | done | with_reducible rfl
                              rotate_left
                              · simp only [Act.put, List.setIfInBounds_toArray, List.set_cons_zero, List.set_cons_succ]
                                rfl
                              refine take_ (i := 12) (N := some 52) (v := ?_) (a' := ?_) #[true, true, true, true, true, true, true, true, true, true, true, true, true, false, false, false, false, false, false, false, false, false, false, false, false, false, false, false, false, false, false, false, false, false, false, false] rfl rfl (by kernel_rfl) (fun _ _ _ h_ => h_) (Or.inl ⟨by rfl, ?_⟩) hHeld ?_ ?_
                              rotate_left
                              · intro w_ hSw
                                (obtain ⟨hz0, hz1, hz2, hz3⟩ := hSw)
                                go_simp
                                first | done | with_reducible rfl
                              rotate_left
                              · simp only [Act.put, List.setIfInBounds_toArray, List.set_cons_zero, List.set_cons_succ]
                                rfl
                              refine take_ (i := 13) (N := some 53) (v := ?_) (a' := ?_) #[true, true, true, true, true, true, true, true, true, true, true, true, true, true, false, false, false, false, false, false, false, false, false, false, false, false, false, false, false, false, false, false, false, false, false, false] rfl rfl (by kernel_rfl) (fun _ _ _ h_ => h_) (Or.inl ⟨by rfl, ?_⟩) hHeld ?_ ?_
                              rotate_left
                              · intro w_ hSw
                                (obtain ⟨hz0, hz1, hz2, hz3⟩ := hSw)
                                go_simp
                                first | done | with_reducible rfl
                              rotate_left
                              · simp only [Act.put, List.setIfInBounds_toArray, List.set_cons_zero, List.set_cons_succ]
                                rfl
                              refine take_ (i := 14) (N := some 54) (v := ?_) (a' := ?_) #[true, true, true, true, true, true, true, true, true, true, true, true, true, true, true, false, false, false, false, false, false, false, false, false, false, false, false, false, false, false, false, false, false, false, false, false] rfl rfl (by kernel_rfl) (fun _ _ _ h_ => h_) (Or.inl ⟨by rfl, ?_⟩) hHeld ?_ ?_
                              rotate_left
                              · intro w_ hSw
                                (obtain ⟨hz0, hz1, hz2, hz3⟩ := hSw)
                                go_simp
                                first | done | with_reducible rfl
                              rotate_left
                              · simp only [Act.put, List.setIfInBounds_toArray, List.set_cons_zero, List.set_cons_succ]
                                rfl
                              refine take_ (i := 15) (N := some 55) (v := undef) (a' := ?_) #[true, true, true, true, true, true, true, true, true, true, true, true, true, true, true, true, false, false, false, false, false, false, false, false, false, false, false, false, false, false, false, false, false, false, false, false] rfl rfl (by kernel_rfl) (fun _ _ _ h_ => h_) (Or.inr ⟨by rfl, rfl⟩) hHeld ?_ ?_
                              rotate_left
                              · simp only [Act.put, List.setIfInBounds_toArray, List.set_cons_zero, List.set_cons_succ]
                                rfl
                              refine take_ (i := 16) (N := some 56) (v := undef) (a' := ?_) #[true, true, true, true, true, true, true, true, true, true, true, true, true, true, true, true, true, false, false, false, false, false, false, false, false, false, false, false, false, false, false, false, false, false, false, false] rfl rfl (by kernel_rfl) (fun _ _ _ h_ => h_) (Or.inr ⟨by rfl, rfl⟩) hHeld ?_ ?_
                              rotate_left
                              · simp only [Act.put, List.setIfInBounds_toArray, List.set_cons_zero, List.set_cons_succ]
                                rfl
                              refine take_ (i := 17) (N := some 57) (v := undef) (a' := ?_) #[true, true, true, true, true, true, true, true, true, true, true, true, true, true, true, true, true, true, false, false, false, false, false, false, false, false, false, false, false, false, false, false, false, false, false, false] rfl rfl (by kernel_rfl) (fun _ _ _ h_ => h_) (Or.inr ⟨by rfl, rfl⟩) hHeld ?_ ?_
                              rotate_left
                              · simp only [Act.put, List.setIfInBounds_toArray, List.set_cons_zero, List.set_cons_succ]
                                rfl
                              refine take_ (i := 18) (N := some 58) (v := undef) (a' := ?_) #[true, true, true, true, true, true, true, true, true, true, true, true, true, true, true, true, true, true, true, false, false, false, false, false, false, false, false, false, false, false, false, false, false, false, false, false] rfl rfl (by kernel_rfl) (fun _ _ _ h_ => h_) (Or.inr ⟨by rfl, rfl⟩) hHeld ?_ ?_
                              rotate_left
                              · simp only [Act.put, List.setIfInBounds_toArray, List.set_cons_zero, List.set_cons_succ]
                                rfl
                              refine take_ (i := 19) (N := some 59) (v := undef) (a' := ?_) #[true, true, true, true, true, true, true, true, true, true, true, true, true, true, true, true, true, true, true, true, false, false, false, false, false, false, false, false, false, false, false, false, false, false, false, false] rfl rfl (by kernel_rfl) (fun _ _ _ h_ => h_) (Or.inr ⟨by rfl, rfl⟩) hHeld ?_ ?_
                              rotate_left
                              · simp only [Act.put, List.setIfInBounds_toArray, List.set_cons_zero, List.set_cons_succ]
                                rfl
                              refine take_ (i := 20) (N := some 60) (v := undef) (a' := ?_) #[true, true, true, true, true, true, true, true, true, true, true, true, true, true, true, true, true, true, true, true, true, false, false, false, false, false, false, false, false, false, false, false, false, false, false, false] rfl rfl (by kernel_rfl) (fun _ _ _ h_ => h_) (Or.inr ⟨by rfl, rfl⟩) hHeld ?_ ?_
                              rotate_left
                              · simp only [Act.put, List.setIfInBounds_toArray, List.set_cons_zero, List.set_cons_succ]
                                rfl
                              refine take_ (i := 21) (N := some 61) (v := undef) (a' := ?_) #[true, true, true, true, true, true, true, true, true, true, true, true, true, true, true, true, true, true, true, true, true, true, false, false, false, false, false, false, false, false, false, false, false, false, false, false] rfl rfl (by kernel_rfl) (fun _ _ _ h_ => h_) (Or.inr ⟨by rfl, rfl⟩) hHeld ?_ ?_
                              rotate_left
                              · simp only [Act.put, List.setIfInBounds_toArray, List.set_cons_zero, List.set_cons_succ]
                                rfl
                              refine take_ (i := 22) (N := some 62) (v := undef) (a' := ?_) #[true, true, true, true, true, true, true, true, true, true, true, true, true, true, true, true, true, true, true, true, true, true, true, false, false, false, false, false, false, false, false, false, false, false, false, false] rfl rfl (by kernel_rfl) (fun _ _ _ h_ => h_) (Or.inr ⟨by rfl, rfl⟩) hHeld ?_ ?_
                              rotate_left
                              · simp only [Act.put, List.setIfInBounds_toArray, List.set_cons_zero, List.set_cons_succ]
                                rfl
                              refine take_ (i := 23) (N := some 63) (v := undef) (a' := ?_) #[true, true, true, true, true, true, true, true, true, true, true, true, true, true, true, true, true, true, true, true, true, true, true, true, false, false, false, false, false, false, false, false, false, false, false, false] rfl rfl (by kernel_rfl) (fun _ _ _ h_ => h_) (Or.inr ⟨by rfl, rfl⟩) hHeld ?_ ?_
                              rotate_left
                              · simp only [Act.put, List.setIfInBounds_toArray, List.set_cons_zero, List.set_cons_succ]
                                rfl
                              refine take_ (i := 24) (N := some 64) (v := undef) (a' := ?_) #[true, true, true, true, true, true, true, true, true, true, true, true, true, true, true, true, true, true, true, true, true, true, true, true, true, false, false, false, false, false, false, false, false, false, false, false] rfl rfl (by kernel_rfl) (fun _ _ _ h_ => h_) (Or.inr ⟨by rfl, rfl⟩) hHeld ?_ ?_
                              rotate_left
                              · simp only [Act.put, List.setIfInBounds_toArray, List.set_cons_zero, List.set_cons_succ]
                                rfl
                              refine take_ (i := 25) (N := some 65) (v := undef) (a' := ?_) #[true, true, true, true, true, true, true, true, true, true, true, true, true, true, true, true, true, true, true, true, true, true, true, true, true, true, false, false, false, false, false, false, false, false, false, false] rfl rfl (by kernel_rfl) (fun _ _ _ h_ => h_) (Or.inr ⟨by rfl, rfl⟩) hHeld ?_ ?_
                              rotate_left
                              · simp only [Act.put, List.setIfInBounds_toArray, List.set_cons_zero, List.set_cons_succ]
                                rfl
                              refine take_ (i := 26) (N := some 66) (v := undef) (a' := ?_) #[true, true, true, true, true, true, true, true, true, true, true, true, true, true, true, true, true, true, true, true, true, true, true, true, true, true, true, false, false, false, false, false, false, false, false, false] rfl rfl (by kernel_rfl) (fun _ _ _ h_ => h_) (Or.inr ⟨by rfl, rfl⟩) hHeld ?_ ?_
                              rotate_left
                              · simp only [Act.put, List.setIfInBounds_toArray, List.set_cons_zero, List.set_cons_succ]
                                rfl
                              refine take_ (i := 27) (N := some 67) (v := undef) (a' := ?_) #[true, true, true, true, true, true, true, true, true, true, true, true, true, true, true, true, true, true, true, true, true, true, true, true, true, true, true, true, false, false, false, false, false, false, false, false] rfl rfl (by kernel_rfl) (fun _ _ _ h_ => h_) (Or.inr ⟨by rfl, rfl⟩) hHeld ?_ ?_
                              rotate_left
                              · simp only [Act.put, List.setIfInBounds_toArray, List.set_cons_zero, List.set_cons_succ]
                                rfl
                              refine take_ (i := 28) (N := some 68) (v := undef) (a' := ?_) #[true, true, true, true, true, true, true, true, true, true, true, true, true, true, true, true, true, true, true, true, true, true, true, true, true, true, true, true, true, false, false, false, false, false, false, false] rfl rfl (by kernel_rfl) (fun _ _ _ h_ => h_) (Or.inr ⟨by rfl, rfl⟩) hHeld ?_ ?_
                              rotate_left
                              · simp only [Act.put, List.setIfInBounds_toArray, List.set_cons_zero, List.set_cons_succ]
                                rfl
                              refine take_ (i := 29) (N := some 69) (v := undef) (a' := ?_) #[true, true, true, true, true, true, true, true, true, true, true, true, true, true, true, true, true, true, true, true, true, true, true, true, true, true, true, true, true, true, false, false, false, false, false, false] rfl rfl (by kernel_rfl) (fun _ _ _ h_ => h_) (Or.inr ⟨by rfl, rfl⟩) hHeld ?_ ?_
                              rotate_left
                              · simp only [Act.put, List.setIfInBounds_toArray, List.set_cons_zero, List.set_cons_succ]
                                rfl
                              refine take_ (i := 30) (N := some 70) (v := undef) (a' := ?_) #[true, true, true, true, true, true, true, true, true, true, true, true, true, true, true, true, true, true, true, true, true, true, true, true, true, true, true, true, true, true, true, false, false, false, false, false] rfl rfl (by kernel_rfl) (fun _ _ _ h_ => h_) (Or.inr ⟨by rfl, rfl⟩) hHeld ?_ ?_
                              rotate_left
                              · simp only [Act.put, List.setIfInBounds_toArray, List.set_cons_zero, List.set_cons_succ]
                                rfl
                              refine take_ (i := 31) (N := some 71) (v := undef) (a' := ?_) #[true, true, true, true, true, true, true, true, true, true, true, true, true, true, true, true, true, true, true, true, true, true, true, true, true, true, true, true, true, true, true, true, false, false, false, false] rfl rfl (by kernel_rfl) (fun _ _ _ h_ => h_) (Or.inr ⟨by rfl, rfl⟩) hHeld ?_ ?_
                              rotate_left
                              · simp only [Act.put, List.setIfInBounds_toArray, List.set_cons_zero, List.set_cons_succ]
                                rfl
                              refine take_ (i := 32) (N := some 72) (v := undef) (a' := ?_) #[true, true, true, true, true, true, true, true, true, true, true, true, true, true, true, true, true, true, true, true, true, true, true, true, true, true, true, true, true, true, true, true, true, false, false, false] rfl rfl (by kernel_rfl) (fun _ _ _ h_ => h_) (Or.inr ⟨by rfl, rfl⟩) hHeld ?_ ?_
                              rotate_left
                              · simp only [Act.put, List.setIfInBounds_toArray, List.set_cons_zero, List.set_cons_succ]
                                rfl
                              refine take_ (i := 33) (N := some 73) (v := undef) (a' := ?_) #[true, true, true, true, true, true, true, true, true, true, true, true, true, true, true, true, true, true, true, true, true, true, true, true, true, true, true, true, true, true, true, true, true, true, false, false] rfl rfl (by kernel_rfl) (fun _ _ _ h_ => h_) (Or.inr ⟨by rfl, rfl⟩) hHeld ?_ ?_
                              rotate_left
                              · simp only [Act.put, List.setIfInBounds_toArray, List.set_cons_zero, List.set_cons_succ]
                                rfl
                              refine take_ (i := 34) (N := some 74) (v := ?_) (a' := ?_) #[true, true, true, true, true, true, true, true, true, true, true, true, true, true, true, true, true, true, true, true, true, true, true, true, true, true, true, true, true, true, true, true, true, true, true, false] rfl rfl (by kernel_rfl) (fun _ _ _ h_ => h_) (Or.inl ⟨by rfl, ?_⟩) hHeld ?_ ?_
                              rotate_left
                              · intro w_ hSw
                                (obtain ⟨hz0, hz1, hz2, hz3⟩ := hSw)
                                go_simp
                                first | done | with_reducible rfl
                              rotate_left
                              · simp only [Act.put, List.setIfInBounds_toArray, List.set_cons_zero, List.set_cons_succ]
                                rfl
                              refine take_ (i := 35) (N := some 75) (v := ?_) (a' := ?_) #[true, true, true, true, true, true, true, true, true, true, true, true, true, true, true, true, true, true, true, true, true, true, true, true, true, true, true, true, true, true, true, true, true, true, true, true] rfl rfl (by kernel_rfl) (fun _ _ _ h_ => h_) (Or.inl ⟨by rfl, ?_⟩) hHeld ?_ ?_
                              rotate_left
                              · intro w_ hSw
                                (obtain ⟨hz0, hz1, hz2, hz3⟩ := hSw)
                                go_simp
                                first | done | with_reducible rfl
                              rotate_left
                              · simp only [Act.put, List.setIfInBounds_toArray, List.set_cons_zero, List.set_cons_succ]
                                rfl
                              refine done_ (by kernel_rfl) ?_
                              have c7 := C7.out
                              have hyt := HY.out
                              subst hyt

                              replace HS3 := Aside0.mk (show cR.St w ob sb o3 s3 _ from (by obtain ⟨vo3, vs3, hv3⟩ := HS3.out; exact ⟨_, _, hv3.kept (cR.drew1 _)⟩))
                              generalize World.drew _ = w5 at HS3 ⊢
                              clear hy0 hy1 hx0 hx1 p0 p1 p2 p3 p4 p4n C7 HY
                              have C8 := Aside0.mk c7
                              clear c7

                              go_wp2_with (first
                                | (refine (cR.pop_calls HS3.out C8.out.2.2.2.2.2 C8.out.2.2.2.2.1).mono ?_; rintro e w6 ⟨rfl, hs6⟩; have HS6 := Aside0.mk hs6; clear hs6)
                                | (refine (cR.top_calls HS6.out).mono ?_; rintro e w7 ⟨rfl, hs7⟩; have HS7 := Aside0.mk hs7; clear hs7))
                              go_roundg g2
                              case measure => omega
                              case rel => exact ⟨_, _, rfl, HS7, HE4⟩
                            · have d1t : (b0 < a0) = False := eq_false d1
                              by_cases d2 : a0 = b0
                              · have d2t : (a0 == b0) = true := by rw [beq_iff_eq]; exact d2
                                cases b1 with
                                | false =>
                                  have hE := HE.out
                                  rw [if_pos (by simp [d2])] at hE
                                  have HE4 := Aside0.mk hE
                                  clear hE HE d1 d2
                                  refine start_ (n := 36) (S := (fun w' => w'.cell? (adx.add (y.toNat * 2)) = some (.int .i64 a0) ∧ w'.cell? ⟨(adx.add (y.toNat * 2)).block, (adx.add (y.toNat * 2)).off + 1, none⟩ = some (.bool a1) ∧ w'.cell? (adx.add (x.toNat * 2)) = some (.int .i64 b0) ∧ w'.cell? ⟨(adx.add (x.toNat * 2)).block, (adx.add (x.toNat * 2)).off + 1, none⟩ = some (.bool false))) (ds := []) #[false, false, false, false, false, false, false, false, false, false, false, false, false, false, false, false, false, false, false, false, false, false, false, false, false, false, false, false, false, false, false, false, false, false, false, false] (by kernel_rfl) rfl rfl (⟨hy0, hy1, hx0, hx1⟩) (fun hHeld => ?_)
                                  refine take_ (i := 0) (N := some 40) (v := ?_) (a' := ?_) #[true, false, false, false, false, false, false, false, false, false, false, false, false, false, false, false, false, false, false, false, false, false, false, false, false, false, false, false, false, false, false, false, false, false, false, false] rfl rfl (by kernel_rfl) (fun _ _ _ h_ => h_) (Or.inl ⟨by rfl, ?_⟩) hHeld ?_ ?_
                                  rotate_left
                                  · intro w_ hSw
                                    (obtain ⟨hz0, hz1, hz2, hz3⟩ := hSw)
                                    go_simp
                                    first | done | with_reducible rfl
                                  rotate_left
                                  · simp only [Act.put, List.setIfInBounds_toArray, List.set_cons_zero, List.set_cons_succ]
                                    rfl
                                  refine take_ (i := 1) (N := some 41) (v := ?_) (a' := ?_) #[true, true, false, false, false, false, false, false, false, false, false, false, false, false, false, false, false, false, false, false, false, false, false, false, false, false, false, false, false, false, false, false, false, false, false, false] rfl rfl (by kernel_rfl) (fun _ _ _ h_ => h_) (Or.inl ⟨by rfl, ?_⟩) hHeld ?_ ?_
                                  rotate_left
                                  · intro w_ hSw
                                    (obtain ⟨hz0, hz1, hz2, hz3⟩ := hSw)
                                    go_simp
                                    first | done | with_reducible rfl
                                  rotate_left
                                  · simp only [Act.put, List.setIfInBounds_toArray, List.set_cons_zero, List.set_cons_succ]
                                    rfl
                                  refine take_ (i := 2) (N := some 42) (v := ?_) (a' := ?_) #[true, true, true, false, false, false, false, false, false, false, false, false, false, false, false, false, false, false, false, false, false, false, false, false, false, false, false, false, false, false, false, false, false, false, false, false] rfl rfl (by kernel_rfl) (fun _ _ _ h_ => h_) (Or.inl ⟨by rfl, ?_⟩) hHeld ?_ ?_
                                  rotate_left
                                  · intro w_ hSw
                                    (obtain ⟨hz0, hz1, hz2, hz3⟩ := hSw)
                                    go_simp
                                    first | done | with_reducible rfl
                                  rotate_left
                                  · simp only [Act.put, List.setIfInBounds_toArray, List.set_cons_zero, List.set_cons_succ]
                                    rfl
                                  refine take_ (i := 3) (N := some 43) (v := ?_) (a' := ?_) #[true, true, true, true, false, false, false, false, false, false, false, false, false, false, false, false, false, false, false, false, false, false, false, false, false, false, false, false, false, false, false, false, false, false, false, false] rfl rfl (by kernel_rfl) (fun _ _ _ h_ => h_) (Or.inl ⟨by rfl, ?_⟩) hHeld ?_ ?_
                                  rotate_left
                                  · intro w_ hSw
                                    (obtain ⟨hz0, hz1, hz2, hz3⟩ := hSw)
                                    go_simp
                                    first | done | with_reducible rfl
                                  rotate_left
                                  · simp only [Act.put, List.setIfInBounds_toArray, List.set_cons_zero, List.set_cons_succ]
                                    rfl
                                  refine take_ (i := 4) (N := some 44) (v := ?_) (a' := ?_) #[true, true, true, true, true, false, false, false, false, false, false, false, false, false, false, false, false, false, false, false, false, false, false, false, false, false, false, false, false, false, false, false, false, false, false, false] rfl rfl (by kernel_rfl) (fun _ _ _ h_ => h_) (Or.inl ⟨by rfl, ?_⟩) hHeld ?_ ?_
                                  rotate_left
                                  · intro w_ hSw
                                    (obtain ⟨hz0, hz1, hz2, hz3⟩ := hSw)
                                    go_simp
                                    first | done | with_reducible rfl
                                  rotate_left
                                  · simp only [Act.put, List.setIfInBounds_toArray, List.set_cons_zero, List.set_cons_succ]
                                    rfl
                                  refine take_ (i := 5) (N := some 45) (v := ?_) (a' := ?_) #[true, true, true, true, true, true, false, false, false, false, false, false, false, false, false, false, false, false, false, false, false, false, false, false, false, false, false, false, false, false, false, false, false, false, false, false] rfl rfl (by kernel_rfl) (fun _ _ _ h_ => h_) (Or.inl ⟨by rfl, ?_⟩) hHeld ?_ ?_
                                  rotate_left
                                  · intro w_ hSw
                                    (obtain ⟨hz0, hz1, hz2, hz3⟩ := hSw)
                                    go_simp
                                    first | done | with_reducible rfl
                                  rotate_left
                                  · simp only [Act.put, List.setIfInBounds_toArray, List.set_cons_zero, List.set_cons_succ]
                                    rfl
                                  refine take_ (i := 6) (N := some 46) (v := ?_) (a' := ?_) #[true, true, true, true, true, true, true, false, false, false, false, false, false, false, false, false, false, false, false, false, false, false, false, false, false, false, false, false, false, false, false, false, false, false, false, false] rfl rfl (by kernel_rfl) (fun _ _ _ h_ => h_) (Or.inl ⟨by rfl, ?_⟩) hHeld ?_ ?_
                                  rotate_left
                                  · intro w_ hSw
                                    (obtain ⟨hz0, hz1, hz2, hz3⟩ := hSw)
                                    go_simp
                                    first | done | with_reducible rfl
                                  rotate_left
                                  · simp only [Act.put, List.setIfInBounds_toArray, List.set_cons_zero, List.set_cons_succ]
                                    rfl
                                  refine take_ (i := 7) (N := some 47) (v := ?_) (a' := ?_) #[true, true, true, true, true, true, true, true, false, false, false, false, false, false, false, false, false, false, false, false, false, false, false, false, false, false, false, false, false, false, false, false, false, false, false, false] rfl rfl (by kernel_rfl) (fun _ _ _ h_ => h_) (Or.inl ⟨by rfl, ?_⟩) hHeld ?_ ?_
                                  rotate_left
                                  · intro w_ hSw
                                    (obtain ⟨hz0, hz1, hz2, hz3⟩ := hSw)
                                    go_simp
                                    first | done | with_reducible rfl
                                  rotate_left
                                  · simp only [Act.put, List.setIfInBounds_toArray, List.set_cons_zero, List.set_cons_succ]
                                    rfl
                                  refine take_ (i := 8) (N := some 48) (v := ?_) (a' := ?_) #[true, true, true, true, true, true, true, true, true, false, false, false, false, false, false, false, false, false, false, false, false, false, false, false, false, false, false, false, false, false, false, false, false, false, false, false] rfl rfl (by kernel_rfl) (fun _ _ _ h_ => h_) (Or.inl ⟨by rfl, ?_⟩) hHeld ?_ ?_
                                  rotate_left
                                  · intro w_ hSw
                                    (obtain ⟨hz0, hz1, hz2, hz3⟩ := hSw)
                                    go_simp
                                    first | done | with_reducible rfl
                                  rotate_left
                                  · simp only [Act.put, List.setIfInBounds_toArray, List.set_cons_zero, List.set_cons_succ]
                                    rfl
                                  refine take_ (i := 9) (N := some 49) (v := ?_) (a' := ?_) #[true, true, true, true, true, true, true, true, true, true, false, false, false, false, false, false, false, false, false, false, false, false, false, false, false, false, false, false, false, false, false, false, false, false, false, false] rfl rfl (by kernel_rfl) (fun _ _ _ h_ => h_) (Or.inl ⟨by rfl, ?_⟩) hHeld ?_ ?_
                                  rotate_left
                                  · intro w_ hSw
                                    (obtain ⟨hz0, hz1, hz2, hz3⟩ := hSw)
                                    go_simp
                                    first | done | with_reducible rfl
                                  rotate_left
                                  · simp only [Act.put, List.setIfInBounds_toArray, List.set_cons_zero, List.set_cons_succ]
                                    rfl
                                  refine take_ (i := 10) (N := some 50) (v := ?_) (a' := ?_) #[true, true, true, true, true, true, true, true, true, true, true, false, false, false, false, false, false, false, false, false, false, false, false, false, false, false, false, false, false, false, false, false, false, false, false, false] rfl rfl (by kernel_rfl) (fun _ _ _ h_ => h_) (Or.inl ⟨by rfl, ?_⟩) hHeld ?_ ?_
                                  rotate_left
                                  · intro w_ hSw
                                    (obtain ⟨hz0, hz1, hz2, hz3⟩ := hSw)
                                    go_simp
                                    first | done | with_reducible rfl
                                  rotate_left
                                  · simp only [Act.put, List.setIfInBounds_toArray, List.set_cons_zero, List.set_cons_succ]
                                    rfl
                                  refine take_ (i := 11) (N := some 51) (v := ?_) (a' := ?_) #[true, true, true, true, true, true, true, true, true, true, true, true, false, false, false, false, false, false, false, false, false, false, false, false, false, false, false, false, false, false, false, false, false, false, false, false] rfl rfl (by kernel_rfl) (fun _ _ _ h_ => h_) (Or.inl ⟨by rfl, ?_⟩) hHeld ?_ ?_
                                  rotate_left
                                  · intro w_ hSw
                                    (obtain ⟨hz0, hz1, hz2, hz3⟩ := hSw)
                                    go_simp
                                    first | done | with_reducible rfl
                                  rotate_left
                                  · simp only [Act.put, List.setIfInBounds_toArray, List.set_cons_zero, List.set_cons_succ]
                                    rfl
                                  refine take_ (i := 12) (N := some 52) (v := ?_) (a' := ?_) #[true, true, true, true, true, true, true, true, true, true, true, true, true, false, false, false, false, false, false, false, false, false, false, false, false, false, false, false, false, false, false, false, false, false, false, false] rfl rfl (by kernel_rfl) (fun _ _ _ h_ => h_) (Or.inl ⟨by rfl, ?_⟩) hHeld ?_ ?_
                                  rotate_left
                                  · intro w_ hSw
                                    (obtain ⟨hz0, hz1, hz2, hz3⟩ := hSw)
                                    go_simp
                                    first | done | with_reducible rfl
                                  rotate_left
                                  · simp only [Act.put, List.setIfInBounds_toArray, List.set_cons_zero, List.set_cons_succ]
                                    rfl
                                  refine take_ (i := 13) (N := some 53) (v := ?_) (a' := ?_) #[true, true, true, true, true, true, true, true, true, true, true, true, true, true, false, false, false, false, false, false, false, false, false, false, false, false, false, false, false, false, false, false, false, false, false, false] rfl rfl (by kernel_rfl) (fun _ _ _ h_ => h_) (Or.inl ⟨by rfl, ?_⟩) hHeld ?_ ?_
                                  rotate_left
                                  · intro w_ hSw
                                    (obtain ⟨hz0, hz1, hz2, hz3⟩ := hSw)
                                    go_simp
                                    first | done | with_reducible rfl
                                  rotate_left
                                  · simp only [Act.put, List.setIfInBounds_toArray, List.set_cons_zero, List.set_cons_succ]
                                    rfl
                                  refine take_ (i := 14) (N := some 54) (v := ?_) (a' := ?_) #[true, true, true, true, true, true, true, true, true, true, true, true, true, true, true, false, false, false, false, false, false, false, false, false, false, false, false, false, false, false, false, false, false, false, false, false] rfl rfl (by kernel_rfl) (fun _ _ _ h_ => h_) (Or.inl ⟨by rfl, ?_⟩) hHeld ?_ ?_
                                  rotate_left
                                  · intro w_ hSw
                                    (obtain ⟨hz0, hz1, hz2, hz3⟩ := hSw)
                                    go_simp
                                    first | done | with_reducible rfl
                                  rotate_left
                                  · simp only [Act.put, List.setIfInBounds_toArray, List.set_cons_zero, List.set_cons_succ]
                                    rfl
                                  refine take_ (i := 15) (N := some 55) (v := ?_) (a' := ?_) #[true, true, true, true, true, true, true, true, true, true, true, true, true, true, true, true, false, false, false, false, false, false, false, false, false, false, false, false, false, false, false, false, false, false, false, false] rfl rfl (by kernel_rfl) (fun _ _ _ h_ => h_) (Or.inl ⟨by rfl, ?_⟩) hHeld ?_ ?_
                                  rotate_left
                                  · intro w_ hSw
                                    (obtain ⟨hz0, hz1, hz2, hz3⟩ := hSw)
                                    go_simp
                                    first | done | with_reducible rfl
                                  rotate_left
                                  · simp only [Act.put, List.setIfInBounds_toArray, List.set_cons_zero, List.set_cons_succ]
                                    rfl
                                  refine take_ (i := 16) (N := some 56) (v := ?_) (a' := ?_) #[true, true, true, true, true, true, true, true, true, true, true, true, true, true, true, true, true, false, false, false, false, false, false, false, false, false, false, false, false, false, false, false, false, false, false, false] rfl rfl (by kernel_rfl) (fun _ _ _ h_ => h_) (Or.inl ⟨by rfl, ?_⟩) hHeld ?_ ?_
                                  rotate_left
                                  · intro w_ hSw
                                    (obtain ⟨hz0, hz1, hz2, hz3⟩ := hSw)
                                    go_simp
                                    first | done | with_reducible rfl
                                  rotate_left
                                  · simp only [Act.put, List.setIfInBounds_toArray, List.set_cons_zero, List.set_cons_succ]
                                    rfl
                                  refine take_ (i := 17) (N := some 57) (v := ?_) (a' := ?_) #[true, true, true, true, true, true, true, true, true, true, true, true, true, true, true, true, true, true, false, false, false, false, false, false, false, false, false, false, false, false, false, false, false, false, false, false] rfl rfl (by kernel_rfl) (fun _ _ _ h_ => h_) (Or.inl ⟨by rfl, ?_⟩) hHeld ?_ ?_
                                  rotate_left
                                  · intro w_ hSw
                                    (obtain ⟨hz0, hz1, hz2, hz3⟩ := hSw)
                                    go_simp
                                    first | done | with_reducible rfl
                                  rotate_left
                                  · simp only [Act.put, List.setIfInBounds_toArray, List.set_cons_zero, List.set_cons_succ]
                                    rfl
                                  refine take_ (i := 18) (N := some 58) (v := ?_) (a' := ?_) #[true, true, true, true, true, true, true, true, true, true, true, true, true, true, true, true, true, true, true, false, false, false, false, false, false, false, false, false, false, false, false, false, false, false, false, false] rfl rfl (by kernel_rfl) (fun _ _ _ h_ => h_) (Or.inl ⟨by rfl, ?_⟩) hHeld ?_ ?_
                                  rotate_left
                                  · intro w_ hSw
                                    (obtain ⟨hz0, hz1, hz2, hz3⟩ := hSw)
                                    go_simp
                                    first | done | with_reducible rfl
                                  rotate_left
                                  · simp only [Act.put, List.setIfInBounds_toArray, List.set_cons_zero, List.set_cons_succ]
                                    rfl
                                  refine take_ (i := 19) (N := some 59) (v := ?_) (a' := ?_) #[true, true, true, true, true, true, true, true, true, true, true, true, true, true, true, true, true, true, true, true, false, false, false, false, false, false, false, false, false, false, false, false, false, false, false, false] rfl rfl (by kernel_rfl) (fun _ _ _ h_ => h_) (Or.inl ⟨by rfl, ?_⟩) hHeld ?_ ?_
                                  rotate_left
                                  · intro w_ hSw
                                    (obtain ⟨hz0, hz1, hz2, hz3⟩ := hSw)
                                    go_simp
                                    first | done | with_reducible rfl
                                  rotate_left
                                  · simp only [Act.put, List.setIfInBounds_toArray, List.set_cons_zero, List.set_cons_succ]
                                    rfl
                                  refine take_ (i := 20) (N := some 60) (v := ?_) (a' := ?_) #[true, true, true, true, true, true, true, true, true, true, true, true, true, true, true, true, true, true, true, true, true, false, false, false, false, false, false, false, false, false, false, false, false, false, false, false] rfl rfl (by kernel_rfl) (fun _ _ _ h_ => h_) (Or.inl ⟨by rfl, ?_⟩) hHeld ?_ ?_
                                  rotate_left
                                  · intro w_ hSw
                                    (obtain ⟨hz0, hz1, hz2, hz3⟩ := hSw)
                                    go_simp
                                    first | done | with_reducible rfl
                                  rotate_left
                                  · simp only [Act.put, List.setIfInBounds_toArray, List.set_cons_zero, List.set_cons_succ]
                                    rfl
                                  refine take_ (i := 21) (N := some 61) (v := ?_) (a' := ?_) #[true, true, true, true, true, true, true, true, true, true, true, true, true, true, true, true, true, true, true, true, true, true, false, false, false, false, false, false, false, false, false, false, false, false, false, false] rfl rfl (by kernel_rfl) (fun _ _ _ h_ => h_) (Or.inl ⟨by rfl, ?_⟩) hHeld ?_ ?_
                                  rotate_left
                                  · intro w_ hSw
                                    (obtain ⟨hz0, hz1, hz2, hz3⟩ := hSw)
                                    go_simp
                                    first | done | with_reducible rfl
                                  rotate_left
                                  · simp only [Act.put, List.setIfInBounds_toArray, List.set_cons_zero, List.set_cons_succ]
                                    rfl
                                  refine take_ (i := 22) (N := some 62) (v := ?_) (a' := ?_) #[true, true, true, true, true, true, true, true, true, true, true, true, true, true, true, true, true, true, true, true, true, true, true, false, false, false, false, false, false, false, false, false, false, false, false, false] rfl rfl (by kernel_rfl) (fun _ _ _ h_ => h_) (Or.inl ⟨by rfl, ?_⟩) hHeld ?_ ?_
                                  rotate_left
                                  · intro w_ hSw
                                    (obtain ⟨hz0, hz1, hz2, hz3⟩ := hSw)
                                    go_simp
                                    first | done | with_reducible rfl
                                  rotate_left
                                  · simp only [Act.put, List.setIfInBounds_toArray, List.set_cons_zero, List.set_cons_succ]
                                    rfl
                                  refine take_ (i := 23) (N := some 63) (v := ?_) (a' := ?_) #[true, true, true, true, true, true, true, true, true, true, true, true, true, true, true, true, true, true, true, true, true, true, true, true, false, false, false, false, false, false, false, false, false, false, false, false] rfl rfl (by kernel_rfl) (fun _ _ _ h_ => h_) (Or.inl ⟨by rfl, ?_⟩) hHeld ?_ ?_
                                  rotate_left
                                  · intro w_ hSw
                                    (obtain ⟨hz0, hz1, hz2, hz3⟩ := hSw)
                                    go_simp
                                    first | done | with_reducible rfl
                                  rotate_left
                                  · simp only [Act.put, List.setIfInBounds_toArray, List.set_cons_zero, List.set_cons_succ]
                                    rfl
                                  refine take_ (i := 24) (N := some 64) (v := ?_) (a' := ?_) #[true, true, true, true, true, true, true, true, true, true, true, true, true, true, true, true, true, true, true, true, true, true, true, true, true, false, false, false, false, false, false, false, false, false, false, false] rfl rfl (by kernel_rfl) (fun _ _ _ h_ => h_) (Or.inl ⟨by rfl, ?_⟩) hHeld ?_ ?_
                                  rotate_left
                                  · intro w_ hSw
                                    (obtain ⟨hz0, hz1, hz2, hz3⟩ := hSw)
                                    go_simp
                                    first | done | with_reducible rfl
                                  rotate_left
                                  · simp only [Act.put, List.setIfInBounds_toArray, List.set_cons_zero, List.set_cons_succ]
                                    rfl
                                  refine take_ (i := 25) (N := some 65) (v := ?_) (a' := ?_) #[true, true, true, true, true, true, true, true, true, true, true, true, true, true, true, true, true, true, true, true, true, true, true, true, true, true, false, false, false, false, false, false, false, false, false, false] rfl rfl (by kernel_rfl) (fun _ _ _ h_ => h_) (Or.inl ⟨by rfl, ?_⟩) hHeld ?_ ?_
                                  rotate_left
                                  · intro w_ hSw
                                    (obtain ⟨hz0, hz1, hz2, hz3⟩ := hSw)
                                    go_simp
                                    first | done | with_reducible rfl
                                  rotate_left
                                  · simp only [Act.put, List.setIfInBounds_toArray, List.set_cons_zero, List.set_cons_succ]
                                    rfl
                                  refine take_ (i := 26) (N := some 66) (v := ?_) (a' := ?_) #[true, true, true, true, true, true, true, true, true, true, true, true, true, true, true, true, true, true, true, true, true, true, true, true, true, true, true, false, false, false, false, false, false, false, false, false] rfl rfl (by kernel_rfl) (fun _ _ _ h_ => h_) (Or.inl ⟨by rfl, ?_⟩) hHeld ?_ ?_
                                  rotate_left
                                  · intro w_ hSw
                                    (obtain ⟨hz0, hz1, hz2, hz3⟩ := hSw)
                                    go_simp
                                    first | done | with_reducible rfl
                                  rotate_left
                                  · simp only [Act.put, List.setIfInBounds_toArray, List.set_cons_zero, List.set_cons_succ]
                                    rfl
                                  refine take_ (i := 27) (N := some 67) (v := ?_) (a' := ?_) #[true, true, true, true, true, true, true, true, true, true, true, true, true, true, true, true, true, true, true, true, true, true, true, true, true, true, true, true, false, false, false, false, false, false, false, false] rfl rfl (by kernel_rfl) (fun _ _ _ h_ => h_) (Or.inl ⟨by rfl, ?_⟩) hHeld ?_ ?_
                                  rotate_left
                                  · intro w_ hSw
                                    (obtain ⟨hz0, hz1, hz2, hz3⟩ := hSw)
                                    go_simp
                                    first | done | with_reducible rfl
                                  rotate_left
                                  · simp only [Act.put, List.setIfInBounds_toArray, List.set_cons_zero, List.set_cons_succ]
                                    rfl
                                  refine take_ (i := 28) (N := some 68) (v := ?_) (a' := ?_) #[true, true, true, true, true, true, true, true, true, true, true, true, true, true, true, true, true, true, true, true, true, true, true, true, true, true, true, true, true, false, false, false, false, false, false, false] rfl rfl (by kernel_rfl) (fun _ _ _ h_ => h_) (Or.inl ⟨by rfl, ?_⟩) hHeld ?_ ?_
                                  rotate_left
                                  · intro w_ hSw
                                    (obtain ⟨hz0, hz1, hz2, hz3⟩ := hSw)
                                    go_simp
                                    first | done | with_reducible rfl
                                  rotate_left
                                  · simp only [Act.put, List.setIfInBounds_toArray, List.set_cons_zero, List.set_cons_succ]
                                    rfl
                                  refine take_ (i := 29) (N := some 69) (v := ?_) (a' := ?_) #[true, true, true, true, true, true, true, true, true, true, true, true, true, true, true, true, true, true, true, true, true, true, true, true, true, true, true, true, true, true, false, false, false, false, false, false] rfl rfl (by kernel_rfl) (fun _ _ _ h_ => h_) (Or.inl ⟨by rfl, ?_⟩) hHeld ?_ ?_
                                  rotate_left
                                  · intro w_ hSw
                                    (obtain ⟨hz0, hz1, hz2, hz3⟩ := hSw)
                                    go_simp
                                    first | done | with_reducible rfl
                                  rotate_left
                                  · simp only [Act.put, List.setIfInBounds_toArray, List.set_cons_zero, List.set_cons_succ]
                                    rfl
                                  refine take_ (i := 30) (N := some 70) (v := ?_) (a' := ?_) #[true, true, true, true, true, true, true, true, true, true, true, true, true, true, true, true, true, true, true, true, true, true, true, true, true, true, true, true, true, true, true, false, false, false, false, false] rfl rfl (by kernel_rfl) (fun _ _ _ h_ => h_) (Or.inl ⟨by rfl, ?_⟩) hHeld ?_ ?_
                                  rotate_left
                                  · intro w_ hSw
                                    (obtain ⟨hz0, hz1, hz2, hz3⟩ := hSw)
                                    go_simp
                                    first | done | with_reducible rfl
                                  rotate_left
                                  · simp only [Act.put, List.setIfInBounds_toArray, List.set_cons_zero, List.set_cons_succ]
                                    rfl
                                  refine take_ (i := 31) (N := some 71) (v := ?_) (a' := ?_) #[true, true, true, true, true, true, true, true, true, true, true, true, true, true, true, true, true, true, true, true, true, true, true, true, true, true, true, true, true, true, true, true, false, false, false, false] rfl rfl (by kernel_rfl) (fun _ _ _ h_ => h_) (Or.inl ⟨by rfl, ?_⟩) hHeld ?_ ?_
                                  rotate_left
                                  · intro w_ hSw
                                    (obtain ⟨hz0, hz1, hz2, hz3⟩ := hSw)
                                    go_simp
                                    first | done | with_reducible rfl
                                  rotate_left
                                  · simp only [Act.put, List.setIfInBounds_toArray, List.set_cons_zero, List.set_cons_succ]
                                    rfl
                                  refine take_ (i := 32) (N := some 72) (v := ?_) (a' := ?_) #[true, true, true, true, true, true, true, true, true, true, true, true, true, true, true, true, true, true, true, true, true, true, true, true, true, true, true, true, true, true, true, true, true, false, false, false] rfl rfl (by kernel_rfl) (fun _ _ _ h_ => h_) (Or.inl ⟨by rfl, ?_⟩) hHeld ?_ ?_
                                  rotate_left
                                  · intro w_ hSw
                                    (obtain ⟨hz0, hz1, hz2, hz3⟩ := hSw)
                                    go_simp
                                    first | done | with_reducible rfl
                                  rotate_left
                                  · simp only [Act.put, List.setIfInBounds_toArray, List.set_cons_zero, List.set_cons_succ]
                                    rfl
                                  refine take_ (i := 33) (N := some 73) (v := ?_) (a' := ?_) #[true, true, true, true, true, true, true, true, true, true, true, true, true, true, true, true, true, true, true, true, true, true, true, true, true, true, true, true, true, true, true, true, true, true, false, false] rfl rfl (by kernel_rfl) (fun _ _ _ h_ => h_) (Or.inl ⟨by rfl, ?_⟩) hHeld ?_ ?_
                                  rotate_left
                                  · intro w_ hSw
                                    (obtain ⟨hz0, hz1, hz2, hz3⟩ := hSw)
                                    go_simp
                                    first | done | with_reducible rfl
                                  rotate_left
                                  · simp only [Act.put, List.setIfInBounds_toArray, List.set_cons_zero, List.set_cons_succ]
                                    rfl
                                  refine take_ (i := 34) (N := some 74) (v := ?_) (a' := ?_) #[true, true, true, true, true, true, true, true, true, true, true, true, true, true, true, true, true, true, true, true, true, true, true, true, true, true, true, true, true, true, true, true, true, true, true, false] rfl rfl (by kernel_rfl) (fun _ _ _ h_ => h_) (Or.inl ⟨by rfl, ?_⟩) hHeld ?_ ?_
                                  rotate_left
                                  · intro w_ hSw
                                    (obtain ⟨hz0, hz1, hz2, hz3⟩ := hSw)
                                    go_simp
                                    first | done | with_reducible rfl
                                  rotate_left
                                  · simp only [Act.put, List.setIfInBounds_toArray, List.set_cons_zero, List.set_cons_succ]
                                    rfl
                                  refine take_ (i := 35) (N := some 75) (v := ?_) (a' := ?_) #[true, true, true, true, true, true, true, true, true, true, true, true, true, true, true, true, true, true, true, true, true, true, true, true, true, true, true, true, true, true, true, true, true, true, true, true] rfl rfl (by kernel_rfl) (fun _ _ _ h_ => h_) (Or.inl ⟨by rfl, ?_⟩) hHeld ?_ ?_
                                  rotate_left
                                  · intro w_ hSw
                                    (obtain ⟨hz0, hz1, hz2, hz3⟩ := hSw)
                                    go_simp
                                    first | done | with_reducible rfl
                                  rotate_left
                                  · simp only [Act.put, List.setIfInBounds_toArray, List.set_cons_zero, List.set_cons_succ]
                                    rfl
                                  refine done_ (by kernel_rfl) ?_
                                  have c7 := C7.out
                                  have hyt := HY.out
                                  subst hyt

                                  replace HS3 := Aside0.mk (show cR.St w ob sb o3 s3 _ from (by obtain ⟨vo3, vs3, hv3⟩ := HS3.out; exact ⟨_, _, hv3.kept (cR.drew1 _)⟩))
                                  generalize World.drew _ = w5 at HS3 ⊢
                                  clear hy0 hy1 hx0 hx1 p0 p1 p2 p3 p4 p4n C7 HY
                                  have C8 := Aside0.mk c7
                                  clear c7

                                  go_wp2_with (first
                                    | (refine (cR.pop_calls HS3.out C8.out.2.2.2.2.2 C8.out.2.2.2.2.1).mono ?_; rintro e w6 ⟨rfl, hs6⟩; have HS6 := Aside0.mk hs6; clear hs6)
                                    | (refine (cR.top_calls HS6.out).mono ?_; rintro e w7 ⟨rfl, hs7⟩; have HS7 := Aside0.mk hs7; clear hs7))
                                  go_roundg g2
                                  case measure => omega
                                  case rel => exact ⟨_, _, rfl, HS7, HE4⟩
                                | true =>
                                  have hE := HE.out
                                  rw [if_neg (by simp [d1, d2])] at hE
                                  have hE := Option.some.inj hE
                                  injection hE with h1 h2
                                  subst h1; subst h2
                                  clear HE d1 d2
                                  refine start_ (n := 36) (S := (fun w' => w'.cell? (adx.add (y.toNat * 2)) = some (.int .i64 a0) ∧ w'.cell? ⟨(adx.add (y.toNat * 2)).block, (adx.add (y.toNat * 2)).off + 1, none⟩ = some (.bool a1) ∧ w'.cell? (adx.add (x.toNat * 2)) = some (.int .i64 b0) ∧ w'.cell? ⟨(adx.add (x.toNat * 2)).block, (adx.add (x.toNat * 2)).off + 1, none⟩ = some (.bool true))) (ds := []) #[false, false, false, false, false, false, false, false, false, false, false, false, false, false, false, false, false, false, false, false, false, false, false, false, false, false, false, false, false, false, false, false, false, false, false, false] (by kernel_rfl) rfl rfl (⟨hy0, hy1, hx0, hx1⟩) (fun hHeld => ?_)
                                  refine take_ (i := 0) (N := some 40) (v := ?_) (a' := ?_) #[true, false, false, false, false, false, false, false, false, false, false, false, false, false, false, false, false, false, false, false, false, false, false, false, false, false, false, false, false, false, false, false, false, false, false, false] rfl rfl (by kernel_rfl) (fun _ _ _ h_ => h_) (Or.inl ⟨by rfl, ?_⟩) hHeld ?_ ?_
                                  rotate_left
                                  · intro w_ hSw
                                    (obtain ⟨hz0, hz1, hz2, hz3⟩ := hSw)
                                    go_simp
                                    first | done | with_reducible rfl
                                  rotate_left
                                  · simp only [Act.put, List.setIfInBounds_toArray, List.set_cons_zero, List.set_cons_succ]
                                    rfl
                                  refine take_ (i := 1) (N := some 41) (v := ?_) (a' := ?_) #[true, true, false, false, false, false, false, false, false, false, false, false, false, false, false, false, false, false, false, false, false, false, false, false, false, false, false, false, false, false, false, false, false, false, false, false] rfl rfl (by kernel_rfl) (fun _ _ _ h_ => h_) (Or.inl ⟨by rfl, ?_⟩) hHeld ?_ ?_
                                  rotate_left
                                  · intro w_ hSw
                                    (obtain ⟨hz0, hz1, hz2, hz3⟩ := hSw)
                                    go_simp
                                    first | done | with_reducible rfl
                                  rotate_left
                                  · simp only [Act.put, List.setIfInBounds_toArray, List.set_cons_zero, List.set_cons_succ]
                                    rfl
                                  refine take_ (i := 2) (N := some 42) (v := ?_) (a' := ?_) #[true, true, true, false, false, false, false, false, false, false, false, false, false, false, false, false, false, false, false, false, false, false, false, false, false, false, false, false, false, false, false, false, false, false, false, false] rfl rfl (by kernel_rfl) (fun _ _ _ h_ => h_) (Or.inl ⟨by rfl, ?_⟩) hHeld ?_ ?_
                                  rotate_left
                                  · intro w_ hSw
                                    (obtain ⟨hz0, hz1, hz2, hz3⟩ := hSw)
                                    go_simp
                                    first | done | with_reducible rfl
                                  rotate_left
                                  · simp only [Act.put, List.setIfInBounds_toArray, List.set_cons_zero, List.set_cons_succ]
                                    rfl
                                  refine take_ (i := 3) (N := some 43) (v := ?_) (a' := ?_) #[true, true, true, true, false, false, false, false, false, false, false, false, false, false, false, false, false, false, false, false, false, false, false, false, false, false, false, false, false, false, false, false, false, false, false, false] rfl rfl (by kernel_rfl) (fun _ _ _ h_ => h_) (Or.inl ⟨by rfl, ?_⟩) hHeld ?_ ?_
                                  rotate_left
                                  · intro w_ hSw
                                    (obtain ⟨hz0, hz1, hz2, hz3⟩ := hSw)
                                    go_simp
                                    first | done | with_reducible rfl
                                  rotate_left
                                  · simp only [Act.put, List.setIfInBounds_toArray, List.set_cons_zero, List.set_cons_succ]
                                    rfl
                                  refine take_ (i := 4) (N := some 44) (v := ?_) (a' := ?_) #[true, true, true, true, true, false, false, false, false, false, false, false, false, false, false, false, false, false, false, false, false, false, false, false, false, false, false, false, false, false, false, false, false, false, false, false] rfl rfl (by kernel_rfl) (fun _ _ _ h_ => h_) (Or.inl ⟨by rfl, ?_⟩) hHeld ?_ ?_
                                  rotate_left
                                  · intro w_ hSw
                                    (obtain ⟨hz0, hz1, hz2, hz3⟩ := hSw)
                                    go_simp
                                    first | done | with_reducible rfl
                                  rotate_left
                                  · simp only [Act.put, List.setIfInBounds_toArray, List.set_cons_zero, List.set_cons_succ]
                                    rfl
                                  refine take_ (i := 5) (N := some 45) (v := ?_) (a' := ?_) #[true, true, true, true, true, true, false, false, false, false, false, false, false, false, false, false, false, false, false, false, false, false, false, false, false, false, false, false, false, false, false, false, false, false, false, false] rfl rfl (by kernel_rfl) (fun _ _ _ h_ => h_) (Or.inl ⟨by rfl, ?_⟩) hHeld ?_ ?_
                                  rotate_left
                                  · intro w_ hSw
                                    (obtain ⟨hz0, hz1, hz2, hz3⟩ := hSw)
                                    go_simp
                                    first | done | with_reducible rfl
                                  rotate_left
                                  · simp only [Act.put, List.setIfInBounds_toArray, List.set_cons_zero, List.set_cons_succ]
                                    rfl
                                  refine take_ (i := 6) (N := some 46) (v := ?_) (a' := ?_) #[true, true, true, true, true, true, true, false, false, false, false, false, false, false, false, false, false, false, false, false, false, false, false, false, false, false, false, false, false, false, false, false, false, false, false, false] rfl rfl (by kernel_rfl) (fun _ _ _ h_ => h_) (Or.inl ⟨by rfl, ?_⟩) hHeld ?_ ?_
                                  rotate_left
                                  · intro w_ hSw
                                    (obtain ⟨hz0, hz1, hz2, hz3⟩ := hSw)
                                    go_simp
                                    first | done | with_reducible rfl
                                  rotate_left
                                  · simp only [Act.put, List.setIfInBounds_toArray, List.set_cons_zero, List.set_cons_succ]
                                    rfl
                                  refine take_ (i := 7) (N := some 47) (v := ?_) (a' := ?_) #[true, true, true, true, true, true, true, true, false, false, false, false, false, false, false, false, false, false, false, false, false, false, false, false, false, false, false, false, false, false, false, false, false, false, false, false] rfl rfl (by kernel_rfl) (fun _ _ _ h_ => h_) (Or.inl ⟨by rfl, ?_⟩) hHeld ?_ ?_
                                  rotate_left
                                  · intro w_ hSw
                                    (obtain ⟨hz0, hz1, hz2, hz3⟩ := hSw)
                                    go_simp
                                    first | done | with_reducible rfl
                                  rotate_left
                                  · simp only [Act.put, List.setIfInBounds_toArray, List.set_cons_zero, List.set_cons_succ]
                                    rfl
                                  refine take_ (i := 8) (N := some 48) (v := ?_) (a' := ?_) #[true, true, true, true, true, true, true, true, true, false, false, false, false, false, false, false, false, false, false, false, false, false, false, false, false, false, false, false, false, false, false, false, false, false, false, false] rfl rfl (by kernel_rfl) (fun _ _ _ h_ => h_) (Or.inl ⟨by rfl, ?_⟩) hHeld ?_ ?_
                                  rotate_left
                                  · intro w_ hSw
                                    (obtain ⟨hz0, hz1, hz2, hz3⟩ := hSw)
                                    go_simp
                                    first | done | with_reducible rfl
                                  rotate_left
                                  · simp only [Act.put, List.setIfInBounds_toArray, List.set_cons_zero, List.set_cons_succ]
                                    rfl
                                  refine take_ (i := 9) (N := some 49) (v := ?_) (a' := ?_) #[true, true, true, true, true, true, true, true, true, true, false, false, false, false, false, false, false, false, false, false, false, false, false, false, false, false, false, false, false, false, false, false, false, false, false, false] rfl rfl (by kernel_rfl) (fun _ _ _ h_ => h_) (Or.inl ⟨by rfl, ?_⟩) hHeld ?_ ?_
                                  rotate_left
                                  · intro w_ hSw
                                    (obtain ⟨hz0, hz1, hz2, hz3⟩ := hSw)
                                    go_simp
                                    first | done | with_reducible rfl
                                  rotate_left
                                  · simp only [Act.put, List.setIfInBounds_toArray, List.set_cons_zero, List.set_cons_succ]
                                    rfl
                                  refine take_ (i := 10) (N := some 50) (v := ?_) (a' := ?_) #[true, true, true, true, true, true, true, true, true, true, true, false, false, false, false, false, false, false, false, false, false, false, false, false, false, false, false, false, false, false, false, false, false, false, false, false] rfl rfl (by kernel_rfl) (fun _ _ _ h_ => h_) (Or.inl ⟨by rfl, ?_⟩) hHeld ?_ ?_
                                  rotate_left
                                  · intro w_ hSw
                                    (obtain ⟨hz0, hz1, hz2, hz3⟩ := hSw)
                                    go_simp
                                    first | done | with_reducible rfl
                                  rotate_left
                                  · simp only [Act.put, List.setIfInBounds_toArray, List.set_cons_zero, List.set_cons_succ]
                                    rfl
                                  refine take_ (i := 11) (N := some 51) (v := ?_) (a' := ?_) #[true, true, true, true, true, true, true, true, true, true, true, true, false, false, false, false, false, false, false, false, false, false, false, false, false, false, false, false, false, false, false, false, false, false, false, false] rfl rfl (by kernel_rfl) (fun _ _ _ h_ => h_) (Or.inl ⟨by rfl, ?_⟩) hHeld ?_ ?_
                                  rotate_left
                                  · intro w_ hSw
                                    (obtain ⟨hz0, hz1, hz2, hz3⟩ := hSw)
                                    go_simp
                                    first | done | with_reducible rfl
                                  rotate_left
                                  · simp only [Act.put, List.setIfInBounds_toArray, List.set_cons_zero, List.set_cons_succ]
                                    rfl
                                  refine take_ (i := 12) (N := some 52) (v := ?_) (a' := ?_) #[true, true, true, true, true, true, true, true, true, true, true, true, true, false, false, false, false, false, false, false, false, false, false, false, false, false, false, false, false, false, false, false, false, false, false, false] rfl rfl (by kernel_rfl) (fun _ _ _ h_ => h_) (Or.inl ⟨by rfl, ?_⟩) hHeld ?_ ?_
                                  rotate_left
                                  · intro w_ hSw
                                    (obtain ⟨hz0, hz1, hz2, hz3⟩ := hSw)
                                    go_simp
                                    first | done | with_reducible rfl
                                  rotate_left
                                  · simp only [Act.put, List.setIfInBounds_toArray, List.set_cons_zero, List.set_cons_succ]
                                    rfl
                                  refine take_ (i := 13) (N := some 53) (v := ?_) (a' := ?_) #[true, true, true, true, true, true, true, true, true, true, true, true, true, true, false, false, false, false, false, false, false, false, false, false, false, false, false, false, false, false, false, false, false, false, false, false] rfl rfl (by kernel_rfl) (fun _ _ _ h_ => h_) (Or.inl ⟨by rfl, ?_⟩) hHeld ?_ ?_
                                  rotate_left
                                  · intro w_ hSw
                                    (obtain ⟨hz0, hz1, hz2, hz3⟩ := hSw)
                                    go_simp
                                    first | done | with_reducible rfl
                                  rotate_left
                                  · simp only [Act.put, List.setIfInBounds_toArray, List.set_cons_zero, List.set_cons_succ]
                                    rfl
                                  refine take_ (i := 14) (N := some 54) (v := ?_) (a' := ?_) #[true, true, true, true, true, true, true, true, true, true, true, true, true, true, true, false, false, false, false, false, false, false, false, false, false, false, false, false, false, false, false, false, false, false, false, false] rfl rfl (by kernel_rfl) (fun _ _ _ h_ => h_) (Or.inl ⟨by rfl, ?_⟩) hHeld ?_ ?_
                                  rotate_left
                                  · intro w_ hSw
                                    (obtain ⟨hz0, hz1, hz2, hz3⟩ := hSw)
                                    go_simp
                                    first | done | with_reducible rfl
                                  rotate_left
                                  · simp only [Act.put, List.setIfInBounds_toArray, List.set_cons_zero, List.set_cons_succ]
                                    rfl
                                  refine take_ (i := 15) (N := some 55) (v := ?_) (a' := ?_) #[true, true, true, true, true, true, true, true, true, true, true, true, true, true, true, true, false, false, false, false, false, false, false, false, false, false, false, false, false, false, false, false, false, false, false, false] rfl rfl (by kernel_rfl) (fun _ _ _ h_ => h_) (Or.inl ⟨by rfl, ?_⟩) hHeld ?_ ?_
                                  rotate_left
                                  · intro w_ hSw
                                    (obtain ⟨hz0, hz1, hz2, hz3⟩ := hSw)
                                    go_simp
                                    first | done | with_reducible rfl
                                  rotate_left
                                  · simp only [Act.put, List.setIfInBounds_toArray, List.set_cons_zero, List.set_cons_succ]
                                    rfl
                                  refine take_ (i := 16) (N := some 56) (v := ?_) (a' := ?_) #[true, true, true, true, true, true, true, true, true, true, true, true, true, true, true, true, true, false, false, false, false, false, false, false, false, false, false, false, false, false, false, false, false, false, false, false] rfl rfl (by kernel_rfl) (fun _ _ _ h_ => h_) (Or.inl ⟨by rfl, ?_⟩) hHeld ?_ ?_
                                  rotate_left
                                  · intro w_ hSw
                                    (obtain ⟨hz0, hz1, hz2, hz3⟩ := hSw)
                                    go_simp
                                    first | done | with_reducible rfl
                                  rotate_left
                                  · simp only [Act.put, List.setIfInBounds_toArray, List.set_cons_zero, List.set_cons_succ]
                                    rfl
                                  refine take_ (i := 17) (N := some 57) (v := ?_) (a' := ?_) #[true, true, true, true, true, true, true, true, true, true, true, true, true, true, true, true, true, true, false, false, false, false, false, false, false, false, false, false, false, false, false, false, false, false, false, false] rfl rfl (by kernel_rfl) (fun _ _ _ h_ => h_) (Or.inl ⟨by rfl, ?_⟩) hHeld ?_ ?_
                                  rotate_left
                                  · intro w_ hSw
                                    (obtain ⟨hz0, hz1, hz2, hz3⟩ := hSw)
                                    go_simp
                                    first | done | with_reducible rfl
                                  rotate_left
                                  · simp only [Act.put, List.setIfInBounds_toArray, List.set_cons_zero, List.set_cons_succ]
                                    rfl
                                  refine take_ (i := 18) (N := some 58) (v := ?_) (a' := ?_) #[true, true, true, true, true, true, true, true, true, true, true, true, true, true, true, true, true, true, true, false, false, false, false, false, false, false, false, false, false, false, false, false, false, false, false, false] rfl rfl (by kernel_rfl) (fun _ _ _ h_ => h_) (Or.inl ⟨by rfl, ?_⟩) hHeld ?_ ?_
                                  rotate_left
                                  · intro w_ hSw
                                    (obtain ⟨hz0, hz1, hz2, hz3⟩ := hSw)
                                    go_simp
                                    first | done | with_reducible rfl
                                  rotate_left
                                  · simp only [Act.put, List.setIfInBounds_toArray, List.set_cons_zero, List.set_cons_succ]
                                    rfl
                                  refine take_ (i := 19) (N := some 59) (v := ?_) (a' := ?_) #[true, true, true, true, true, true, true, true, true, true, true, true, true, true, true, true, true, true, true, true, false, false, false, false, false, false, false, false, false, false, false, false, false, false, false, false] rfl rfl (by kernel_rfl) (fun _ _ _ h_ => h_) (Or.inl ⟨by rfl, ?_⟩) hHeld ?_ ?_
                                  rotate_left
                                  · intro w_ hSw
                                    (obtain ⟨hz0, hz1, hz2, hz3⟩ := hSw)
                                    go_simp
                                    first | done | with_reducible rfl
                                  rotate_left
                                  · simp only [Act.put, List.setIfInBounds_toArray, List.set_cons_zero, List.set_cons_succ]
                                    rfl
                                  refine take_ (i := 20) (N := some 60) (v := ?_) (a' := ?_) #[true, true, true, true, true, true, true, true, true, true, true, true, true, true, true, true, true, true, true, true, true, false, false, false, false, false, false, false, false, false, false, false, false, false, false, false] rfl rfl (by kernel_rfl) (fun _ _ _ h_ => h_) (Or.inl ⟨by rfl, ?_⟩) hHeld ?_ ?_
                                  rotate_left
                                  · intro w_ hSw
                                    (obtain ⟨hz0, hz1, hz2, hz3⟩ := hSw)
                                    go_simp
                                    first | done | with_reducible rfl
                                  rotate_left
                                  · simp only [Act.put, List.setIfInBounds_toArray, List.set_cons_zero, List.set_cons_succ]
                                    rfl
                                  refine take_ (i := 21) (N := some 61) (v := ?_) (a' := ?_) #[true, true, true, true, true, true, true, true, true, true, true, true, true, true, true, true, true, true, true, true, true, true, false, false, false, false, false, false, false, false, false, false, false, false, false, false] rfl rfl (by kernel_rfl) (fun _ _ _ h_ => h_) (Or.inl ⟨by rfl, ?_⟩) hHeld ?_ ?_
                                  rotate_left
                                  · intro w_ hSw
                                    (obtain ⟨hz0, hz1, hz2, hz3⟩ := hSw)
                                    go_simp
                                    first | done | with_reducible rfl
                                  rotate_left
                                  · simp only [Act.put, List.setIfInBounds_toArray, List.set_cons_zero, List.set_cons_succ]
                                    rfl
                                  refine take_ (i := 22) (N := some 62) (v := ?_) (a' := ?_) #[true, true, true, true, true, true, true, true, true, true, true, true, true, true, true, true, true, true, true, true, true, true, true, false, false, false, false, false, false, false, false, false, false, false, false, false] rfl rfl (by kernel_rfl) (fun _ _ _ h_ => h_) (Or.inl ⟨by rfl, ?_⟩) hHeld ?_ ?_
                                  rotate_left
                                  · intro w_ hSw
                                    (obtain ⟨hz0, hz1, hz2, hz3⟩ := hSw)
                                    go_simp
                                    first | done | with_reducible rfl
                                  rotate_left
                                  · simp only [Act.put, List.setIfInBounds_toArray, List.set_cons_zero, List.set_cons_succ]
                                    rfl
                                  refine take_ (i := 23) (N := some 63) (v := ?_) (a' := ?_) #[true, true, true, true, true, true, true, true, true, true, true, true, true, true, true, true, true, true, true, true, true, true, true, true, false, false, false, false, false, false, false, false, false, false, false, false] rfl rfl (by kernel_rfl) (fun _ _ _ h_ => h_) (Or.inl ⟨by rfl, ?_⟩) hHeld ?_ ?_
                                  rotate_left
                                  · intro w_ hSw
                                    (obtain ⟨hz0, hz1, hz2, hz3⟩ := hSw)
                                    go_simp
                                    first | done | with_reducible rfl
                                  rotate_left
                                  · simp only [Act.put, List.setIfInBounds_toArray, List.set_cons_zero, List.set_cons_succ]
                                    rfl
                                  refine take_ (i := 24) (N := some 64) (v := ?_) (a' := ?_) #[true, true, true, true, true, true, true, true, true, true, true, true, true, true, true, true, true, true, true, true, true, true, true, true, true, false, false, false, false, false, false, false, false, false, false, false] rfl rfl (by kernel_rfl) (fun _ _ _ h_ => h_) (Or.inl ⟨by rfl, ?_⟩) hHeld ?_ ?_
                                  rotate_left
                                  · intro w_ hSw
                                    (obtain ⟨hz0, hz1, hz2, hz3⟩ := hSw)
                                    go_simp
                                    first | done | with_reducible rfl
                                  rotate_left
                                  · simp only [Act.put, List.setIfInBounds_toArray, List.set_cons_zero, List.set_cons_succ]
                                    rfl
                                  refine take_ (i := 25) (N := some 65) (v := ?_) (a' := ?_) #[true, true, true, true, true, true, true, true, true, true, true, true, true, true, true, true, true, true, true, true, true, true, true, true, true, true, false, false, false, false, false, false, false, false, false, false] rfl rfl (by kernel_rfl) (fun _ _ _ h_ => h_) (Or.inl ⟨by rfl, ?_⟩) hHeld ?_ ?_
                                  rotate_left
                                  · intro w_ hSw
                                    (obtain ⟨hz0, hz1, hz2, hz3⟩ := hSw)
                                    go_simp
                                    first | done | with_reducible rfl
                                  rotate_left
                                  · simp only [Act.put, List.setIfInBounds_toArray, List.set_cons_zero, List.set_cons_succ]
                                    rfl
                                  refine take_ (i := 26) (N := some 66) (v := ?_) (a' := ?_) #[true, true, true, true, true, true, true, true, true, true, true, true, true, true, true, true, true, true, true, true, true, true, true, true, true, true, true, false, false, false, false, false, false, false, false, false] rfl rfl (by kernel_rfl) (fun _ _ _ h_ => h_) (Or.inl ⟨by rfl, ?_⟩) hHeld ?_ ?_
                                  rotate_left
                                  · intro w_ hSw
                                    (obtain ⟨hz0, hz1, hz2, hz3⟩ := hSw)
                                    go_simp
                                    first | done | with_reducible rfl
                                  rotate_left
                                  · simp only [Act.put, List.setIfInBounds_toArray, List.set_cons_zero, List.set_cons_succ]
                                    rfl
                                  refine take_ (i := 27) (N := some 67) (v := ?_) (a' := ?_) #[true, true, true, true, true, true, true, true, true, true, true, true, true, true, true, true, true, true, true, true, true, true, true, true, true, true, true, true, false, false, false, false, false, false, false, false] rfl rfl (by kernel_rfl) (fun _ _ _ h_ => h_) (Or.inl ⟨by rfl, ?_⟩) hHeld ?_ ?_
                                  rotate_left
                                  · intro w_ hSw
                                    (obtain ⟨hz0, hz1, hz2, hz3⟩ := hSw)
                                    go_simp
                                    first | done | with_reducible rfl
                                  rotate_left
                                  · simp only [Act.put, List.setIfInBounds_toArray, List.set_cons_zero, List.set_cons_succ]
                                    rfl
                                  refine take_ (i := 28) (N := some 68) (v := ?_) (a' := ?_) #[true, true, true, true, true, true, true, true, true, true, true, true, true, true, true, true, true, true, true, true, true, true, true, true, true, true, true, true, true, false, false, false, false, false, false, false] rfl rfl (by kernel_rfl) (fun _ _ _ h_ => h_) (Or.inl ⟨by rfl, ?_⟩) hHeld ?_ ?_
                                  rotate_left
                                  · intro w_ hSw
                                    (obtain ⟨hz0, hz1, hz2, hz3⟩ := hSw)
                                    go_simp
                                    first | done | with_reducible rfl
                                  rotate_left
                                  · simp only [Act.put, List.setIfInBounds_toArray, List.set_cons_zero, List.set_cons_succ]
                                    rfl
                                  refine take_ (i := 29) (N := some 69) (v := ?_) (a' := ?_) #[true, true, true, true, true, true, true, true, true, true, true, true, true, true, true, true, true, true, true, true, true, true, true, true, true, true, true, true, true, true, false, false, false, false, false, false] rfl rfl (by kernel_rfl) (fun _ _ _ h_ => h_) (Or.inl ⟨by rfl, ?_⟩) hHeld ?_ ?_
                                  rotate_left
                                  · intro w_ hSw
                                    (obtain ⟨hz0, hz1, hz2, hz3⟩ := hSw)
                                    go_simp
                                    first | done | with_reducible rfl
                                  rotate_left
                                  · simp only [Act.put, List.setIfInBounds_toArray, List.set_cons_zero, List.set_cons_succ]
                                    rfl
                                  refine take_ (i := 30) (N := some 70) (v := ?_) (a' := ?_) #[true, true, true, true, true, true, true, true, true, true, true, true, true, true, true, true, true, true, true, true, true, true, true, true, true, true, true, true, true, true, true, false, false, false, false, false] rfl rfl (by kernel_rfl) (fun _ _ _ h_ => h_) (Or.inl ⟨by rfl, ?_⟩) hHeld ?_ ?_
                                  rotate_left
                                  · intro w_ hSw
                                    (obtain ⟨hz0, hz1, hz2, hz3⟩ := hSw)
                                    go_simp
                                    first | done | with_reducible rfl
                                  rotate_left
                                  · simp only [Act.put, List.setIfInBounds_toArray, List.set_cons_zero, List.set_cons_succ]
                                    rfl
                                  refine take_ (i := 31) (N := some 71) (v := ?_) (a' := ?_) #[true, true, true, true, true, true, true, true, true, true, true, true, true, true, true, true, true, true, true, true, true, true, true, true, true, true, true, true, true, true, true, true, false, false, false, false] rfl rfl (by kernel_rfl) (fun _ _ _ h_ => h_) (Or.inl ⟨by rfl, ?_⟩) hHeld ?_ ?_
                                  rotate_left
                                  · intro w_ hSw
                                    (obtain ⟨hz0, hz1, hz2, hz3⟩ := hSw)
                                    go_simp
                                    first | done | with_reducible rfl
                                  rotate_left
                                  · simp only [Act.put, List.setIfInBounds_toArray, List.set_cons_zero, List.set_cons_succ]
                                    rfl
                                  refine take_ (i := 32) (N := some 72) (v := ?_) (a' := ?_) #[true, true, true, true, true, true, true, true, true, true, true, true, true, true, true, true, true, true, true, true, true, true, true, true, true, true, true, true, true, true, true, true, true, false, false, false] rfl rfl (by kernel_rfl) (fun _ _ _ h_ => h_) (Or.inl ⟨by rfl, ?_⟩) hHeld ?_ ?_
                                  rotate_left
                                  · intro w_ hSw
                                    (obtain ⟨hz0, hz1, hz2, hz3⟩ := hSw)
                                    go_simp
                                    first | done | with_reducible rfl
                                  rotate_left
                                  · simp only [Act.put, List.setIfInBounds_toArray, List.set_cons_zero, List.set_cons_succ]
                                    rfl
                                  refine take_ (i := 33) (N := some 73) (v := ?_) (a' := ?_) #[true, true, true, true, true, true, true, true, true, true, true, true, true, true, true, true, true, true, true, true, true, true, true, true, true, true, true, true, true, true, true, true, true, true, false, false] rfl rfl (by kernel_rfl) (fun _ _ _ h_ => h_) (Or.inl ⟨by rfl, ?_⟩) hHeld ?_ ?_
                                  rotate_left
                                  · intro w_ hSw
                                    (obtain ⟨hz0, hz1, hz2, hz3⟩ := hSw)
                                    go_simp
                                    first | done | with_reducible rfl
                                  rotate_left
                                  · simp only [Act.put, List.setIfInBounds_toArray, List.set_cons_zero, List.set_cons_succ]
                                    rfl
                                  refine take_ (i := 34) (N := some 74) (v := ?_) (a' := ?_) #[true, true, true, true, true, true, true, true, true, true, true, true, true, true, true, true, true, true, true, true, true, true, true, true, true, true, true, true, true, true, true, true, true, true, true, false] rfl rfl (by kernel_rfl) (fun _ _ _ h_ => h_) (Or.inl ⟨by rfl, ?_⟩) hHeld ?_ ?_
                                  rotate_left
                                  · intro w_ hSw
                                    (obtain ⟨hz0, hz1, hz2, hz3⟩ := hSw)
                                    go_simp
                                    first | done | with_reducible rfl
                                  rotate_left
                                  · simp only [Act.put, List.setIfInBounds_toArray, List.set_cons_zero, List.set_cons_succ]
                                    rfl
                                  refine take_ (i := 35) (N := some 75) (v := ?_) (a' := ?_) #[true, true, true, true, true, true, true, true, true, true, true, true, true, true, true, true, true, true, true, true, true, true, true, true, true, true, true, true, true, true, true, true, true, true, true, true] rfl rfl (by kernel_rfl) (fun _ _ _ h_ => h_) (Or.inl ⟨by rfl, ?_⟩) hHeld ?_ ?_
                                  rotate_left
                                  · intro w_ hSw
                                    (obtain ⟨hz0, hz1, hz2, hz3⟩ := hSw)
                                    go_simp
                                    first | done | with_reducible rfl
                                  rotate_left
                                  · simp only [Act.put, List.setIfInBounds_toArray, List.set_cons_zero, List.set_cons_succ]
                                    rfl
                                  refine done_ (by kernel_rfl) ?_
                                  replace HS3 := Aside0.mk (show cR.St w ob sb o3 s3 _ from (by obtain ⟨vo3, vs3, hv3⟩ := HS3.out; exact ⟨_, _, hv3.kept (cR.drew1 _)⟩))
                                  generalize World.drew _ = w5 at HS3 ⊢
                                  clear hy0 hy1 hx0 hx1 p0 p1 p2 p3 p4 p4n C7

                                  obtain ⟨vo, vs, hv⟩ := HS3.out
                                  obtain ⟨A, c, rfl⟩ := Kd.R_slice hv.rs
                                  obtain ⟨B, d, rfl⟩ := Kd.R_slice hv.ro
                                  have hq1 := (blk_cell hv.bs 0).trans rfl
                                  have hq2 := (blk_cell hv.bo 0).trans rfl
                                  have HV := Aside0.mk hv
                                  clear hv
                                  go_wp2_with (first
                                    | ((with_reducible refine gate_builtin (b := .append) (xs := #[.tmp 80, .tmp 82]) rfl ?_); at_builtin; go_loud (refine Kd.R_append (Kd.int .i64) (w0 := w) w.heap.size rfl (.tmp 80) (.tmp 82) 23 3 (.int .i64 0) 8 rfl Try.underlying23 cR.info rfl (by decide) (by omega) (.slice A s3.length c) s3 x _ (fun k => k ≠ ob ∧ k ≠ sb) (fun _ => False) rfl rfl ?xm ?xo ?xf HV.out.rs HV.out.below (below_size HV.out.below) ?xl ?_); (case xm => rfl); (case xo => exact fun k hk => hk.elim); (case xf => exact fun k hk => ⟨by have := blk_lt HV.out.bo; omega, by have := blk_lt HV.out.bs; omega⟩); (case xl => rw [Nat.mul_comm]; omega); intro v1 w1' hr1 hb1 hg1 hat1; have HSV := Aside0.mk (HV.out.pushS hg1 hb1 hr1 hat1); have hq3 := blk_grown HV.out.bs hg1 (fun e => (HV.out.rs.1 sb e.symm).2 rfl); (obtain ⟨B1, c1', ev⟩ := Kd.R_slice hr1); (generalize (s3 ++ [x]).length = ln at ev); subst ev; have hq4 := blk_frozen hq3; have hq5 := (blk_cell hq3 0).trans rfl; clear hr1 hb1 hg1 hat1 hq3))
                                  go_roundg q
                                  case measure => omega
                                  case rel => exact ⟨i + 1, o3, _, deep, false, rfl, rfl, by go_num, by omega, ⟨_, _, HSV.out⟩, HL⟩
                              · have d2t : (a0 == b0) = false := by rw [beq_eq_false_iff_ne]; exact d2
                                have hE := HE.out
                                rw [if_neg (by simp [d1, d2t])] at hE
                                have hE := Option.some.inj hE
                                injection hE with h1 h2
                                subst h1; subst h2
                                clear HE d1 d2
                                refine start_ (n := 36) (S := (fun w' => w'.cell? (adx.add (y.toNat * 2)) = some (.int .i64 a0) ∧ w'.cell? ⟨(adx.add (y.toNat * 2)).block, (adx.add (y.toNat * 2)).off + 1, none⟩ = some (.bool a1) ∧ w'.cell? (adx.add (x.toNat * 2)) = some (.int .i64 b0) ∧ w'.cell? ⟨(adx.add (x.toNat * 2)).block, (adx.add (x.toNat * 2)).off + 1, none⟩ = some (.bool b1))) (ds := []) #[false, false, false, false, false, false, false, false, false, false, false, false, false, false, false, false, false, false, false, false, false, false, false, false, false, false, false, false, false, false, false, false, false, false, false, false] (by kernel_rfl) rfl rfl (⟨hy0, hy1, hx0, hx1⟩) (fun hHeld => ?_)
                                refine take_ (i := 0) (N := some 40) (v := ?_) (a' := ?_) #[true, false, false, false, false, false, false, false, false, false, false, false, false, false, false, false, false, false, false, false, false, false, false, false, false, false, false, false, false, false, false, false, false, false, false, false] rfl rfl (by kernel_rfl) (fun _ _ _ h_ => h_) (Or.inl ⟨by rfl, ?_⟩) hHeld ?_ ?_
                                rotate_left
                                · intro w_ hSw
                                  (obtain ⟨hz0, hz1, hz2, hz3⟩ := hSw)
                                  go_simp
                                  first | done | with_reducible rfl
                                rotate_left
                                · simp only [Act.put, List.setIfInBounds_toArray, List.set_cons_zero, List.set_cons_succ]
                                  rfl
                                refine take_ (i := 1) (N := some 41) (v := ?_) (a' := ?_) #[true, true, false, false, false, false, false, false, false, false, false, false, false, false, false, false, false, false, false, false, false, false, false, false, false, false, false, false, false, false, false, false, false, false, false, false] rfl rfl (by kernel_rfl) (fun _ _ _ h_ => h_) (Or.inl ⟨by rfl, ?_⟩) hHeld ?_ ?_
                                rotate_left
                                · intro w_ hSw
                                  (obtain ⟨hz0, hz1, hz2, hz3⟩ := hSw)
                                  go_simp
                                  first | done | with_reducible rfl
                                rotate_left
                                · simp only [Act.put, List.setIfInBounds_toArray, List.set_cons_zero, List.set_cons_succ]
                                  rfl
                                refine take_ (i := 2) (N := some 42) (v := ?_) (a' := ?_) #[true, true, true, false, false, false, false, false, false, false, false, false, false, false, false, false, false, false, false, false, false, false, false, false, false, false, false, false, false, false, false, false, false, false, false, false] rfl rfl (by kernel_rfl) (fun _ _ _ h_ => h_) (Or.inl ⟨by rfl, ?_⟩) hHeld ?_ ?_
                                rotate_left
                                · intro w_ hSw
                                  (obtain ⟨hz0, hz1, hz2, hz3⟩ := hSw)
                                  go_simp
                                  first | done | with_reducible rfl
                                rotate_left
                                · simp only [Act.put, List.setIfInBounds_toArray, List.set_cons_zero, List.set_cons_succ]
                                  rfl
                                refine take_ (i := 3) (N := some 43) (v := ?_) (a' := ?_) #[true, true, true, true, false, false, false, false, false, false, false, false, false, false, false, false, false, false, false, false, false, false, false, false, false, false, false, false, false, false, false, false, false, false, false, false] rfl rfl (by kernel_rfl) (fun _ _ _ h_ => h_) (Or.inl ⟨by rfl, ?_⟩) hHeld ?_ ?_
                                rotate_left
                                · intro w_ hSw
                                  (obtain ⟨hz0, hz1, hz2, hz3⟩ := hSw)
                                  go_simp
                                  first | done | with_reducible rfl
                                rotate_left
                                · simp only [Act.put, List.setIfInBounds_toArray, List.set_cons_zero, List.set_cons_succ]
                                  rfl
                                refine take_ (i := 4) (N := some 44) (v := ?_) (a' := ?_) #[true, true, true, true, true, false, false, false, false, false, false, false, false, false, false, false, false, false, false, false, false, false, false, false, false, false, false, false, false, false, false, false, false, false, false, false] rfl rfl (by kernel_rfl) (fun _ _ _ h_ => h_) (Or.inl ⟨by rfl, ?_⟩) hHeld ?_ ?_
                                rotate_left
                                · intro w_ hSw
                                  (obtain ⟨hz0, hz1, hz2, hz3⟩ := hSw)
                                  go_simp
                                  first | done | with_reducible rfl
                                rotate_left
                                · simp only [Act.put, List.setIfInBounds_toArray, List.set_cons_zero, List.set_cons_succ]
                                  rfl
                                refine take_ (i := 5) (N := some 45) (v := ?_) (a' := ?_) #[true, true, true, true, true, true, false, false, false, false, false, false, false, false, false, false, false, false, false, false, false, false, false, false, false, false, false, false, false, false, false, false, false, false, false, false] rfl rfl (by kernel_rfl) (fun _ _ _ h_ => h_) (Or.inl ⟨by rfl, ?_⟩) hHeld ?_ ?_
                                rotate_left
                                · intro w_ hSw
                                  (obtain ⟨hz0, hz1, hz2, hz3⟩ := hSw)
                                  go_simp
                                  first | done | with_reducible rfl
                                rotate_left
                                · simp only [Act.put, List.setIfInBounds_toArray, List.set_cons_zero, List.set_cons_succ]
                                  rfl
                                refine take_ (i := 6) (N := some 46) (v := ?_) (a' := ?_) #[true, true, true, true, true, true, true, false, false, false, false, false, false, false, false, false, false, false, false, false, false, false, false, false, false, false, false, false, false, false, false, false, false, false, false, false] rfl rfl (by kernel_rfl) (fun _ _ _ h_ => h_) (Or.inl ⟨by rfl, ?_⟩) hHeld ?_ ?_
                                rotate_left
                                · intro w_ hSw
                                  (obtain ⟨hz0, hz1, hz2, hz3⟩ := hSw)
                                  go_simp
                                  first | done | with_reducible rfl
                                rotate_left
                                · simp only [Act.put, List.setIfInBounds_toArray, List.set_cons_zero, List.set_cons_succ]
                                  rfl
                                refine take_ (i := 7) (N := some 47) (v := ?_) (a' := ?_) #[true, true, true, true, true, true, true, true, false, false, false, false, false, false, false, false, false, false, false, false, false, false, false, false, false, false, false, false, false, false, false, false, false, false, false, false] rfl rfl (by kernel_rfl) (fun _ _ _ h_ => h_) (Or.inl ⟨by rfl, ?_⟩) hHeld ?_ ?_
                                rotate_left
                                · intro w_ hSw
                                  (obtain ⟨hz0, hz1, hz2, hz3⟩ := hSw)
                                  go_simp
                                  first | done | with_reducible rfl
                                rotate_left
                                · simp only [Act.put, List.setIfInBounds_toArray, List.set_cons_zero, List.set_cons_succ]
                                  rfl
                                refine take_ (i := 8) (N := some 48) (v := ?_) (a' := ?_) #[true, true, true, true, true, true, true, true, true, false, false, false, false, false, false, false, false, false, false, false, false, false, false, false, false, false, false, false, false, false, false, false, false, false, false, false] rfl rfl (by kernel_rfl) (fun _ _ _ h_ => h_) (Or.inl ⟨by rfl, ?_⟩) hHeld ?_ ?_
                                rotate_left
                                · intro w_ hSw
                                  (obtain ⟨hz0, hz1, hz2, hz3⟩ := hSw)
                                  go_simp
                                  first | done | with_reducible rfl
                                rotate_left
                                · simp only [Act.put, List.setIfInBounds_toArray, List.set_cons_zero, List.set_cons_succ]
                                  rfl
                                refine take_ (i := 9) (N := some 49) (v := ?_) (a' := ?_) #[true, true, true, true, true, true, true, true, true, true, false, false, false, false, false, false, false, false, false, false, false, false, false, false, false, false, false, false, false, false, false, false, false, false, false, false] rfl rfl (by kernel_rfl) (fun _ _ _ h_ => h_) (Or.inl ⟨by rfl, ?_⟩) hHeld ?_ ?_
                                rotate_left
                                · intro w_ hSw
                                  (obtain ⟨hz0, hz1, hz2, hz3⟩ := hSw)
                                  go_simp
                                  first | done | with_reducible rfl
                                rotate_left
                                · simp only [Act.put, List.setIfInBounds_toArray, List.set_cons_zero, List.set_cons_succ]
                                  rfl
                                refine take_ (i := 10) (N := some 50) (v := ?_) (a' := ?_) #[true, true, true, true, true, true, true, true, true, true, true, false, false, false, false, false, false, false, false, false, false, false, false, false, false, false, false, false, false, false, false, false, false, false, false, false] rfl rfl (by kernel_rfl) (fun _ _ _ h_ => h_) (Or.inl ⟨by rfl, ?_⟩) hHeld ?_ ?_
                                rotate_left
                                · intro w_ hSw
                                  (obtain ⟨hz0, hz1, hz2, hz3⟩ := hSw)
                                  go_simp
                                  first | done | with_reducible rfl
                                rotate_left
                                · simp only [Act.put, List.setIfInBounds_toArray, List.set_cons_zero, List.set_cons_succ]
                                  rfl
                                refine take_ (i := 11) (N := some 51) (v := ?_) (a' := ?_) #[true, true, true, true, true, true, true, true, true, true, true, true, false, false, false, false, false, false, false, false, false, false, false, false, false, false, false, false, false, false, false, false, false, false, false, false] rfl rfl (by kernel_rfl) (fun _ _ _ h_ => h_) (Or.inl ⟨by rfl, ?_⟩) hHeld ?_ ?_
                                rotate_left
                                · intro w_ hSw
                                  (obtain ⟨hz0, hz1, hz2, hz3⟩ := hSw)
                                  go_simp
                                  first | done | with_reducible rfl
                                rotate_left
                                · simp only [Act.put, List.setIfInBounds_toArray, List.set_cons_zero, List.set_cons_succ]
                                  rfl
                                refine take_ (i := 12) (N := some 52) (v := ?_) (a' := ?_) #[true, true, true, true, true, true, true, true, true, true, true, true, true, false, false, false, false, false, false, false, false, false, false, false, false, false, false, false, false, false, false, false, false, false, false, false] rfl rfl (by kernel_rfl) (fun _ _ _ h_ => h_) (Or.inl ⟨by rfl, ?_⟩) hHeld ?_ ?_
                                rotate_left
                                · intro w_ hSw
                                  (obtain ⟨hz0, hz1, hz2, hz3⟩ := hSw)
                                  go_simp
                                  first | done | with_reducible rfl
                                rotate_left
                                · simp only [Act.put, List.setIfInBounds_toArray, List.set_cons_zero, List.set_cons_succ]
                                  rfl
                                refine take_ (i := 13) (N := some 53) (v := ?_) (a' := ?_) #[true, true, true, true, true, true, true, true, true, true, true, true, true, true, false, false, false, false, false, false, false, false, false, false, false, false, false, false, false, false, false, false, false, false, false, false] rfl rfl (by kernel_rfl) (fun _ _ _ h_ => h_) (Or.inl ⟨by rfl, ?_⟩) hHeld ?_ ?_
                                rotate_left
                                · intro w_ hSw
                                  (obtain ⟨hz0, hz1, hz2, hz3⟩ := hSw)
                                  go_simp
                                  first | done | with_reducible rfl
                                rotate_left
                                · simp only [Act.put, List.setIfInBounds_toArray, List.set_cons_zero, List.set_cons_succ]
                                  rfl
                                refine take_ (i := 14) (N := some 54) (v := ?_) (a' := ?_) #[true, true, true, true, true, true, true, true, true, true, true, true, true, true, true, false, false, false, false, false, false, false, false, false, false, false, false, false, false, false, false, false, false, false, false, false] rfl rfl (by kernel_rfl) (fun _ _ _ h_ => h_) (Or.inl ⟨by rfl, ?_⟩) hHeld ?_ ?_
                                rotate_left
                                · intro w_ hSw
                                  (obtain ⟨hz0, hz1, hz2, hz3⟩ := hSw)
                                  go_simp
                                  first | done | with_reducible rfl
                                rotate_left
                                · simp only [Act.put, List.setIfInBounds_toArray, List.set_cons_zero, List.set_cons_succ]
                                  rfl
                                refine take_ (i := 15) (N := some 55) (v := ?_) (a' := ?_) #[true, true, true, true, true, true, true, true, true, true, true, true, true, true, true, true, false, false, false, false, false, false, false, false, false, false, false, false, false, false, false, false, false, false, false, false] rfl rfl (by kernel_rfl) (fun _ _ _ h_ => h_) (Or.inl ⟨by rfl, ?_⟩) hHeld ?_ ?_
                                rotate_left
                                · intro w_ hSw
                                  (obtain ⟨hz0, hz1, hz2, hz3⟩ := hSw)
                                  go_simp
                                  first | done | with_reducible rfl
                                rotate_left
                                · simp only [Act.put, List.setIfInBounds_toArray, List.set_cons_zero, List.set_cons_succ]
                                  rfl
                                refine take_ (i := 16) (N := some 56) (v := ?_) (a' := ?_) #[true, true, true, true, true, true, true, true, true, true, true, true, true, true, true, true, true, false, false, false, false, false, false, false, false, false, false, false, false, false, false, false, false, false, false, false] rfl rfl (by kernel_rfl) (fun _ _ _ h_ => h_) (Or.inl ⟨by rfl, ?_⟩) hHeld ?_ ?_
                                rotate_left
                                · intro w_ hSw
                                  (obtain ⟨hz0, hz1, hz2, hz3⟩ := hSw)
                                  go_simp
                                  first | done | with_reducible rfl
                                rotate_left
                                · simp only [Act.put, List.setIfInBounds_toArray, List.set_cons_zero, List.set_cons_succ]
                                  rfl
                                refine take_ (i := 17) (N := some 57) (v := ?_) (a' := ?_) #[true, true, true, true, true, true, true, true, true, true, true, true, true, true, true, true, true, true, false, false, false, false, false, false, false, false, false, false, false, false, false, false, false, false, false, false] rfl rfl (by kernel_rfl) (fun _ _ _ h_ => h_) (Or.inl ⟨by rfl, ?_⟩) hHeld ?_ ?_
                                rotate_left
                                · intro w_ hSw
                                  (obtain ⟨hz0, hz1, hz2, hz3⟩ := hSw)
                                  go_simp
                                  first | done | with_reducible rfl
                                rotate_left
                                · simp only [Act.put, List.setIfInBounds_toArray, List.set_cons_zero, List.set_cons_succ]
                                  rfl
                                refine take_ (i := 18) (N := some 58) (v := ?_) (a' := ?_) #[true, true, true, true, true, true, true, true, true, true, true, true, true, true, true, true, true, true, true, false, false, false, false, false, false, false, false, false, false, false, false, false, false, false, false, false] rfl rfl (by kernel_rfl) (fun _ _ _ h_ => h_) (Or.inl ⟨by rfl, ?_⟩) hHeld ?_ ?_
                                rotate_left
                                · intro w_ hSw
                                  (obtain ⟨hz0, hz1, hz2, hz3⟩ := hSw)
                                  go_simp
                                  first | done | with_reducible rfl
                                rotate_left
                                · simp only [Act.put, List.setIfInBounds_toArray, List.set_cons_zero, List.set_cons_succ]
                                  rfl
                                refine take_ (i := 19) (N := some 59) (v := ?_) (a' := ?_) #[true, true, true, true, true, true, true, true, true, true, true, true, true, true, true, true, true, true, true, true, false, false, false, false, false, false, false, false, false, false, false, false, false, false, false, false] rfl rfl (by kernel_rfl) (fun _ _ _ h_ => h_) (Or.inl ⟨by rfl, ?_⟩) hHeld ?_ ?_
                                rotate_left
                                · intro w_ hSw
                                  (obtain ⟨hz0, hz1, hz2, hz3⟩ := hSw)
                                  go_simp
                                  first | done | with_reducible rfl
                                rotate_left
                                · simp only [Act.put, List.setIfInBounds_toArray, List.set_cons_zero, List.set_cons_succ]
                                  rfl
                                refine take_ (i := 20) (N := some 60) (v := ?_) (a' := ?_) #[true, true, true, true, true, true, true, true, true, true, true, true, true, true, true, true, true, true, true, true, true, false, false, false, false, false, false, false, false, false, false, false, false, false, false, false] rfl rfl (by kernel_rfl) (fun _ _ _ h_ => h_) (Or.inl ⟨by rfl, ?_⟩) hHeld ?_ ?_
                                rotate_left
                                · intro w_ hSw
                                  (obtain ⟨hz0, hz1, hz2, hz3⟩ := hSw)
                                  go_simp
                                  first | done | with_reducible rfl
                                rotate_left
                                · simp only [Act.put, List.setIfInBounds_toArray, List.set_cons_zero, List.set_cons_succ]
                                  rfl
                                refine take_ (i := 21) (N := some 61) (v := ?_) (a' := ?_) #[true, true, true, true, true, true, true, true, true, true, true, true, true, true, true, true, true, true, true, true, true, true, false, false, false, false, false, false, false, false, false, false, false, false, false, false] rfl rfl (by kernel_rfl) (fun _ _ _ h_ => h_) (Or.inl ⟨by rfl, ?_⟩) hHeld ?_ ?_
                                rotate_left
                                · intro w_ hSw
                                  (obtain ⟨hz0, hz1, hz2, hz3⟩ := hSw)
                                  go_simp
                                  first | done | with_reducible rfl
                                rotate_left
                                · simp only [Act.put, List.setIfInBounds_toArray, List.set_cons_zero, List.set_cons_succ]
                                  rfl
                                refine take_ (i := 22) (N := some 62) (v := ?_) (a' := ?_) #[true, true, true, true, true, true, true, true, true, true, true, true, true, true, true, true, true, true, true, true, true, true, true, false, false, false, false, false, false, false, false, false, false, false, false, false] rfl rfl (by kernel_rfl) (fun _ _ _ h_ => h_) (Or.inl ⟨by rfl, ?_⟩) hHeld ?_ ?_
                                rotate_left
                                · intro w_ hSw
                                  (obtain ⟨hz0, hz1, hz2, hz3⟩ := hSw)
                                  go_simp
                                  first | done | with_reducible rfl
                                rotate_left
                                · simp only [Act.put, List.setIfInBounds_toArray, List.set_cons_zero, List.set_cons_succ]
                                  rfl
                                refine take_ (i := 23) (N := some 63) (v := ?_) (a' := ?_) #[true, true, true, true, true, true, true, true, true, true, true, true, true, true, true, true, true, true, true, true, true, true, true, true, false, false, false, false, false, false, false, false, false, false, false, false] rfl rfl (by kernel_rfl) (fun _ _ _ h_ => h_) (Or.inl ⟨by rfl, ?_⟩) hHeld ?_ ?_
                                rotate_left
                                · intro w_ hSw
                                  (obtain ⟨hz0, hz1, hz2, hz3⟩ := hSw)
                                  go_simp
                                  first | done | with_reducible rfl
                                rotate_left
                                · simp only [Act.put, List.setIfInBounds_toArray, List.set_cons_zero, List.set_cons_succ]
                                  rfl
                                refine take_ (i := 24) (N := some 64) (v := ?_) (a' := ?_) #[true, true, true, true, true, true, true, true, true, true, true, true, true, true, true, true, true, true, true, true, true, true, true, true, true, false, false, false, false, false, false, false, false, false, false, false] rfl rfl (by kernel_rfl) (fun _ _ _ h_ => h_) (Or.inl ⟨by rfl, ?_⟩) hHeld ?_ ?_
                                rotate_left
                                · intro w_ hSw
                                  (obtain ⟨hz0, hz1, hz2, hz3⟩ := hSw)
                                  go_simp
                                  first | done | with_reducible rfl
                                rotate_left
                                · simp only [Act.put, List.setIfInBounds_toArray, List.set_cons_zero, List.set_cons_succ]
                                  rfl
                                refine take_ (i := 25) (N := some 65) (v := ?_) (a' := ?_) #[true, true, true, true, true, true, true, true, true, true, true, true, true, true, true, true, true, true, true, true, true, true, true, true, true, true, false, false, false, false, false, false, false, false, false, false] rfl rfl (by kernel_rfl) (fun _ _ _ h_ => h_) (Or.inl ⟨by rfl, ?_⟩) hHeld ?_ ?_
                                rotate_left
                                · intro w_ hSw
                                  (obtain ⟨hz0, hz1, hz2, hz3⟩ := hSw)
                                  go_simp
                                  first | done | with_reducible rfl
                                rotate_left
                                · simp only [Act.put, List.setIfInBounds_toArray, List.set_cons_zero, List.set_cons_succ]
                                  rfl
                                refine take_ (i := 26) (N := some 66) (v := ?_) (a' := ?_) #[true, true, true, true, true, true, true, true, true, true, true, true, true, true, true, true, true, true, true, true, true, true, true, true, true, true, true, false, false, false, false, false, false, false, false, false] rfl rfl (by kernel_rfl) (fun _ _ _ h_ => h_) (Or.inl ⟨by rfl, ?_⟩) hHeld ?_ ?_
                                rotate_left
                                · intro w_ hSw
                                  (obtain ⟨hz0, hz1, hz2, hz3⟩ := hSw)
                                  go_simp
                                  first | done | with_reducible rfl
                                rotate_left
                                · simp only [Act.put, List.setIfInBounds_toArray, List.set_cons_zero, List.set_cons_succ]
                                  rfl
                                refine take_ (i := 27) (N := some 67) (v := undef) (a' := ?_) #[true, true, true, true, true, true, true, true, true, true, true, true, true, true, true, true, true, true, true, true, true, true, true, true, true, true, true, true, false, false, false, false, false, false, false, false] rfl rfl (by kernel_rfl) (fun _ _ _ h_ => h_) (Or.inr ⟨by rfl, rfl⟩) hHeld ?_ ?_
                                rotate_left
                                · simp only [Act.put, List.setIfInBounds_toArray, List.set_cons_zero, List.set_cons_succ]
                                  rfl
                                refine take_ (i := 28) (N := some 68) (v := undef) (a' := ?_) #[true, true, true, true, true, true, true, true, true, true, true, true, true, true, true, true, true, true, true, true, true, true, true, true, true, true, true, true, true, false, false, false, false, false, false, false] rfl rfl (by kernel_rfl) (fun _ _ _ h_ => h_) (Or.inr ⟨by rfl, rfl⟩) hHeld ?_ ?_
                                rotate_left
                                · simp only [Act.put, List.setIfInBounds_toArray, List.set_cons_zero, List.set_cons_succ]
                                  rfl
                                refine take_ (i := 29) (N := some 69) (v := undef) (a' := ?_) #[true, true, true, true, true, true, true, true, true, true, true, true, true, true, true, true, true, true, true, true, true, true, true, true, true, true, true, true, true, true, false, false, false, false, false, false] rfl rfl (by kernel_rfl) (fun _ _ _ h_ => h_) (Or.inr ⟨by rfl, rfl⟩) hHeld ?_ ?_
                                rotate_left
                                · simp only [Act.put, List.setIfInBounds_toArray, List.set_cons_zero, List.set_cons_succ]
                                  rfl
                                refine take_ (i := 30) (N := some 70) (v := undef) (a' := ?_) #[true, true, true, true, true, true, true, true, true, true, true, true, true, true, true, true, true, true, true, true, true, true, true, true, true, true, true, true, true, true, true, false, false, false, false, false] rfl rfl (by kernel_rfl) (fun _ _ _ h_ => h_) (Or.inr ⟨by rfl, rfl⟩) hHeld ?_ ?_
                                rotate_left
                                · simp only [Act.put, List.setIfInBounds_toArray, List.set_cons_zero, List.set_cons_succ]
                                  rfl
                                refine take_ (i := 31) (N := some 71) (v := undef) (a' := ?_) #[true, true, true, true, true, true, true, true, true, true, true, true, true, true, true, true, true, true, true, true, true, true, true, true, true, true, true, true, true, true, true, true, false, false, false, false] rfl rfl (by kernel_rfl) (fun _ _ _ h_ => h_) (Or.inr ⟨by rfl, rfl⟩) hHeld ?_ ?_
                                rotate_left
                                · simp only [Act.put, List.setIfInBounds_toArray, List.set_cons_zero, List.set_cons_succ]
                                  rfl
                                refine take_ (i := 32) (N := some 72) (v := undef) (a' := ?_) #[true, true, true, true, true, true, true, true, true, true, true, true, true, true, true, true, true, true, true, true, true, true, true, true, true, true, true, true, true, true, true, true, true, false, false, false] rfl rfl (by kernel_rfl) (fun _ _ _ h_ => h_) (Or.inr ⟨by rfl, rfl⟩) hHeld ?_ ?_
                                rotate_left
                                · simp only [Act.put, List.setIfInBounds_toArray, List.set_cons_zero, List.set_cons_succ]
                                  rfl
                                refine take_ (i := 33) (N := some 73) (v := ?_) (a' := ?_) #[true, true, true, true, true, true, true, true, true, true, true, true, true, true, true, true, true, true, true, true, true, true, true, true, true, true, true, true, true, true, true, true, true, true, false, false] rfl rfl (by kernel_rfl) (fun _ _ _ h_ => h_) (Or.inl ⟨by rfl, ?_⟩) hHeld ?_ ?_
                                rotate_left
                                · intro w_ hSw
                                  (obtain ⟨hz0, hz1, hz2, hz3⟩ := hSw)
                                  go_simp
                                  first | done | with_reducible rfl
                                rotate_left
                                · simp only [Act.put, List.setIfInBounds_toArray, List.set_cons_zero, List.set_cons_succ]
                                  rfl
                                refine take_ (i := 34) (N := some 74) (v := ?_) (a' := ?_) #[true, true, true, true, true, true, true, true, true, true, true, true, true, true, true, true, true, true, true, true, true, true, true, true, true, true, true, true, true, true, true, true, true, true, true, false] rfl rfl (by kernel_rfl) (fun _ _ _ h_ => h_) (Or.inl ⟨by rfl, ?_⟩) hHeld ?_ ?_
                                rotate_left
                                · intro w_ hSw
                                  (obtain ⟨hz0, hz1, hz2, hz3⟩ := hSw)
                                  go_simp
                                  first | done | with_reducible rfl
                                rotate_left
                                · simp only [Act.put, List.setIfInBounds_toArray, List.set_cons_zero, List.set_cons_succ]
                                  rfl
                                refine take_ (i := 35) (N := some 75) (v := ?_) (a' := ?_) #[true, true, true, true, true, true, true, true, true, true, true, true, true, true, true, true, true, true, true, true, true, true, true, true, true, true, true, true, true, true, true, true, true, true, true, true] rfl rfl (by kernel_rfl) (fun _ _ _ h_ => h_) (Or.inl ⟨by rfl, ?_⟩) hHeld ?_ ?_
                                rotate_left
                                · intro w_ hSw
                                  (obtain ⟨hz0, hz1, hz2, hz3⟩ := hSw)
                                  go_simp
                                  first | done | with_reducible rfl
                                rotate_left
                                · simp only [Act.put, List.setIfInBounds_toArray, List.set_cons_zero, List.set_cons_succ]
                                  rfl
                                refine done_ (by kernel_rfl) ?_
                                replace HS3 := Aside0.mk (show cR.St w ob sb o3 s3 _ from (by obtain ⟨vo3, vs3, hv3⟩ := HS3.out; exact ⟨_, _, hv3.kept (cR.drew1 _)⟩))
                                generalize World.drew _ = w5 at HS3 ⊢
                                clear hy0 hy1 hx0 hx1 p0 p1 p2 p3 p4 p4n C7

                                obtain ⟨vo, vs, hv⟩ := HS3.out
                                obtain ⟨A, c, rfl⟩ := Kd.R_slice hv.rs
                                obtain ⟨B, d, rfl⟩ := Kd.R_slice hv.ro
                                have hq1 := (blk_cell hv.bs 0).trans rfl
                                have hq2 := (blk_cell hv.bo 0).trans rfl
                                have HV := Aside0.mk hv
                                clear hv
                                go_wp2_with (first
                                  | ((with_reducible refine gate_builtin (b := .append) (xs := #[.tmp 80, .tmp 82]) rfl ?_); at_builtin; go_loud (refine Kd.R_append (Kd.int .i64) (w0 := w) w.heap.size rfl (.tmp 80) (.tmp 82) 23 3 (.int .i64 0) 8 rfl Try.underlying23 cR.info rfl (by decide) (by omega) (.slice A s3.length c) s3 x _ (fun k => k ≠ ob ∧ k ≠ sb) (fun _ => False) rfl rfl ?xm ?xo ?xf HV.out.rs HV.out.below (below_size HV.out.below) ?xl ?_); (case xm => rfl); (case xo => exact fun k hk => hk.elim); (case xf => exact fun k hk => ⟨by have := blk_lt HV.out.bo; omega, by have := blk_lt HV.out.bs; omega⟩); (case xl => rw [Nat.mul_comm]; omega); intro v1 w1' hr1 hb1 hg1 hat1; have HSV := Aside0.mk (HV.out.pushS hg1 hb1 hr1 hat1); have hq3 := blk_grown HV.out.bs hg1 (fun e => (HV.out.rs.1 sb e.symm).2 rfl); (obtain ⟨B1, c1', ev⟩ := Kd.R_slice hr1); (generalize (s3 ++ [x]).length = ln at ev); subst ev; have hq4 := blk_frozen hq3; have hq5 := (blk_cell hq3 0).trans rfl; clear hr1 hb1 hg1 hat1 hq3))
                                go_roundg q
                                case measure => omega
                                case rel => exact ⟨i + 1, o3, _, deep, false, rfl, rfl, by go_num, by omega, ⟨_, _, HSV.out⟩, HL⟩
                          · rw [if_neg c7] at hE; cases hE
                    · rw [if_neg c5] at hL; cases hL
            · rw [if_pos cg] at hL; cases hL
        · rw [if_neg ci] at hL
          have ciz : ((i : Int) < (l1.length : Int)) = False := eq_false (by omega)
          by_cases cf : done = false ∨ deep > 0
          · rw [if_pos cf] at hL
            have hL := Option.some.inj hL
            injection hL with h1 h2
            subst h1; subst h2
            cases done with
            | false =>
              clear hbel
              go_wp2
              go_ret2
              exact ⟨_, rfl, Kd.R_nil _ _ _ _ _, HBE.out⟩
            | true =>
              have c0d : (0 < deep) = True := eq_true (by simpa using cf)
              clear hbel
              go_wp2
              go_ret2
              exact ⟨_, rfl, Kd.R_nil _ _ _ _ _, HBE.out⟩
          · rw [if_neg cf] at hL
            have cdn : done = true := by cases done with | false => exact absurd (Or.inl rfl) cf | true => rfl
            subst cdn
            have c0d : (0 < deep) = False := eq_false (fun h => cf (Or.inr h))
            cases he : cR.endL q out st with
            | none => rw [he] at hL; cases hL
            | some o =>
            rw [he] at hL
            have hL := Option.some.inj hL
            injection hL with h1 h2
            subst h1; subst h2
            have HE := Aside0.mk he
            clear he hbel cf
            go_wp2
            go_loopg [] q (fun g2 wr2 => ∃ (out2 st2 : List Int), Aside0 (cR.St w ob sb out2 st2 wr2) ∧ Aside0 (cR.endL g2 out2 st2 = some o))
            case atStart => exact ⟨out, st, HS, HE⟩
            case round =>
              obtain ⟨out2, st2, HS2, HE2⟩ := hrel
              have hE := HE2.out
              clear HE2
              obtain ⟨vo, vs, hv⟩ := HS2.out
              obtain ⟨A, c, rfl⟩ := Kd.R_slice hv.rs
              obtain ⟨B, d, rfl⟩ := Kd.R_slice hv.ro
              have hq1 := (blk_cell hv.bs 0).trans rfl
              have hq2 := (blk_cell hv.bo 0).trans rfl
              have HV := Aside0.mk hv
              clear hv
              cases gk with
              | zero => rw [cR.endL] at hE; cases hE
              | succ g2 =>
              rw [cR.endL] at hE
              by_cases cs : st2.length = 0
              · rw [if_pos cs] at hE
                have hE := Option.some.inj hE
                subst hE
                go_wp2
                go_ret2
                exact ⟨_, rfl, Kd.R_mono HV.out.ro (fun _ _ => trivial), HV.out.below⟩
              · rw [if_neg cs] at hE
                by_cases co : out2.length < 1000
                · rw [if_pos co] at hE
                  have HE3 := Aside0.mk hE
                  have csz : ((st2.length : Int) > 0) = True := eq_true (by omega)
                  have csp : 0 < st2.length := by omega
                  clear hE
                  go_wp2_with (first | (go_at_fn 52; refine (cR.pop_calls HS2.out csp co).mono ?_; rintro e w3 ⟨rfl, hs3⟩; have HS3 := Aside0.mk hs3; clear hs3) | (refine (cR.pop_calls HS2.out csp co).mono ?_; rintro e w3 ⟨rfl, hs3⟩; have HS3 := Aside0.mk hs3; clear hs3))
                  go_roundg g2
                  case measure => omega
                  case rel => exact ⟨_, _, HS3, HE3⟩
                · rw [if_neg co] at hE; cases hE
    · rw [if_neg cl] at h; cases h
  · rw [if_neg ce] at h
    have h := Option.some.inj h
    injection h with h1 h2
    subst h1; subst h2
    have cez : (e != 0) = true := by rw [bne_iff_ne]; exact ce
    go_enter Try.func15, Try.ntmps15
    go_wp2_with (go_at_call 51; refine (climb_wrong.calls k A0 c0 l0 A1 c1 l1 true e _ HR0.out HC0.out HR1.out HC1.out HW.out).mono ?_; rintro e w1 ⟨rfl, hb⟩; have HB1 := Aside0.mk hb; clear hb)
    go_ret2
    exact ⟨_, rfl, Kd.R_nil _ _ _ _ _, HB1.out⟩

end Go.Proofs.Ythgiiikjcfhgjaa.GC
