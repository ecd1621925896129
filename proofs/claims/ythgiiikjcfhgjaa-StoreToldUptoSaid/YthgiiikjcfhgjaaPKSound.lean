/- May a thicket be? That is told of any spots: thicket.order and thicket.Count come to an end. Plain Lean. -/
import Derived.Test.YthgiiikjcfhgjaaEv
import Derived.Test.YthgiiikjcfhgjaaGK4
namespace Go.Proofs.Ythgiiikjcfhgjaa.PKM
set_option linter.unusedVariables false
set_option linter.unusedSimpArgs false
open Go.RowKit Go.Proofs.Ythgiiikjcfhgjaa.GK Go.Proofs.YthgiiikjcfhgjaaW.PrintWords Go.Proofs.YthgiiikjcfhgjaaW.PrintLast Go.Proofs.YthgiiikjcfhgjaaW.PrintMore

theorem Ev.uniq {α : Type} {g : Nat → Option α} {a b : α} (h : Ev g a) (k : Ev g b) : a = b := by
  obtain ⟨m, hm⟩ := h
  obtain ⟨n, hn⟩ := k
  have h1 := hm (max m n) (Nat.le_max_left _ _)
  have h2 := hn (max m n) (Nat.le_max_right _ _)
  rw [h1] at h2
  exact Option.some.inj h2
def wide (sp : List S117) : Prop := ∀ s ∈ sp, (s.f3.map List.length).sum + s.f3.length ≤ 2000000
def below' (ways : List (List Int)) : List Int := ways.flatMap (fun w => w.drop 1)
theorem drop_mn (w : List Int) : w.drop (mn 1 (w.length : Int)).toNat = w.drop 1 := by
  cases w with
  | nil => simp
  | cons a r =>
    have : mn 1 ((a :: r).length : Int) = 1 := by
      unfold mn
      simp only [List.length_cons]
      split <;> omega
    rw [this]; rfl
theorem mn_range (w : List Int) : 0 ≤ mn 1 (w.length : Int) ∧ mn 1 (w.length : Int) ≤ (w.length : Int) := by
  unfold mn; split <;> omega
theorem rdl_nat (xs : List (List Int)) (i : Nat) : rd_L1 xs (i : Int) = xs.getD i [] := by simp [rd_L1]
theorem drop_cons' {α : Type} {l : List α} {i : Nat} (h : i < l.length) (d : α) : l.drop i = l.getD i d :: l.drop (i + 1) := by
  rw [List.drop_eq_getElem_cons h, List.getD_eq_getElem?_getD, List.getElem?_eq_getElem h, Option.getD_some]
theorem sum_mem {l : List (List Int)} {w : List Int} (h : w ∈ l) : w.length ≤ (l.map List.length).sum := by
  induction l with
  | nil => cases h
  | cons a r ih =>
    simp only [List.map_cons, List.sum_cons]
    rcases List.mem_cons.1 h with rfl | h
    · omega
    · have := ih h; omega
theorem below_len (l : List (List Int)) : (below' l).length ≤ (l.map List.length).sum := by
  induction l with
  | nil => simp [below']
  | cons a r ih =>
    unfold below' at ih ⊢
    simp only [List.flatMap_cons, List.length_append, List.map_cons, List.sum_cons, List.length_drop]
    omega
theorem below_loop (ways : List (List Int)) (hw : (ways.map List.length).sum + ways.length ≤ 2000000) : ∀ (d i : Nat) (acc : List Int), i + d = ways.length → acc.length ≤ 4000000 → acc.length + ((ways.drop i).map List.length).sum ≤ 4000000 →
    Ev (fun k => thicket_below.l0 k acc ways (ways.length : Int) (i : Int)) (acc ++ below' (ways.drop i)) := by
  intro d
  induction d with
  | zero =>
    intro i acc hi ha hs
    refine Ev.step (fun k => by rw [thicket_below.l0]) ?_
    refine Ev.neg (by omega) (Ev.eq (Ev.now _) ?_)
    rw [List.drop_eq_nil_of_le (by omega)]; simp [below']
  | succ d ih =>
    intro i acc hi ha hs
    have hil : i < ways.length := by omega
    refine Ev.step (fun k => by rw [thicket_below.l0]) ?_
    have hm := mn_range (ways.getD i [])
    rw [rdl_nat]
    refine Ev.pos (by omega) (Ev.pos (by omega) (Ev.pos (by omega) (Ev.pos hm.1 (Ev.pos hm.2 ?_))))
    rw [drop_mn]
    rw [drop_cons' hil []] at hs ⊢
    simp only [List.map_cons, List.sum_cons] at hs
    have hd : ((ways.getD i []).drop 1).length ≤ (ways.getD i []).length := by simp
    refine Ev.pos (by omega) ?_
    rw [w64 (by omega) (by omega)]
    have := ih (i + 1) (acc ++ (ways.getD i []).drop 1) (by omega) (by rw [List.length_append]; omega) (by rw [List.length_append]; omega)
    have e : acc ++ (ways.getD i []).drop 1 ++ below' (ways.drop (i + 1)) = acc ++ below' (ways.getD i [] :: ways.drop (i + 1)) := by
      unfold below'; rw [List.flatMap_cons, List.append_assoc]
    rw [e] at this
    exact this
theorem below_spec (a b c : Int) (ways : List (List Int)) (hw : (ways.map List.length).sum + ways.length ≤ 2000000) : Ev (fun k => thicket_below.f k a b c ways) (below' ways) := by
  have := below_loop ways hw ways.length 0 [] (by omega) (by simp) (by simp; omega)
  unfold thicket_below.f
  simpa using this

def goodI (sp : List S117) (i : Int) : Prop := (0 ≤ i ∧ i < (sp.length : Int)) ∧ ∀ j ∈ below' (rd_T117 sp i).f3, 0 ≤ j ∧ j < (sp.length : Int)
structure VO (sp : List S117) (st l : List Int) : Prop where
  len : st.length = sp.length
  pos : ∀ x ∈ st, (0 : Int) ≤ x
  good : ∀ i ∈ l, goodI sp i
def zs (st : List Int) : Nat := st.count 0
theorem zs_set {st : List Int} {i : Nat} (hi : i < st.length) (v : Int) (hv : v ≠ 0) : zs (st.set i v) = zs st - (if st[i] = 0 then 1 else 0) := by
  unfold zs
  rw [List.count_set hi]
  simp [hv]
theorem zs_set_zero {st : List Int} {i : Nat} (hi : i < st.length) (v : Int) (hv : v ≠ 0) (h0 : st[i] = 0) : zs (st.set i v) + 1 = zs st := by
  have := zs_set hi v hv
  rw [if_pos h0] at this
  have hp : 0 < zs st := by
    unfold zs
    exact List.count_pos_iff.2 (h0 ▸ List.getElem_mem hi)
  omega
theorem zs_set_le {st : List Int} {i : Nat} (hi : i < st.length) (v : Int) (hv : v ≠ 0) : zs (st.set i v) ≤ zs st := by
  rw [zs_set hi v hv]; omega
theorem pos_set {st : List Int} {i : Nat} {v : Int} (h : ∀ x ∈ st, (0 : Int) ≤ x) (hv : 0 ≤ v) : ∀ x ∈ st.set i v, (0 : Int) ≤ x := fun x hx => by
  rcases List.mem_or_eq_of_mem_set hx with h1 | h1
  · exact h x h1
  · omega
/-- What a visit comes to. -/
def VR (sp : List S117) (st l : List Int) (r : Bool × List Int × List Int) : Prop := VO sp r.2.1 r.2.2 ∧ zs r.2.1 + r.2.2.length ≤ zs st + l.length ∧ zs r.2.1 ≤ zs st
def VQ (sp : List S117) (zz : Nat) : Prop := ∀ (i : Int) (st l : List Int), VO sp st l → 0 ≤ i → i < (sp.length : Int) → zs st ≤ zz → zs st + l.length ≤ 200 → ∃ r, Ev (fun q => tO.visit sp q i st l) r ∧ VR sp st l r
theorem kids_ev {sp : List S117} {zz : Nat} (Q : VQ sp zz) (js : List Int) : ∀ (d m : Nat) (st l : List Int), m + d = js.length → VO sp st l → zs st ≤ zz → zs st + l.length ≤ 200 →
    ∃ r, Ev (fun q => tO.kids sp q js m st l) r ∧ VR sp st l r ∧ (r.1 = true → ∀ j ∈ js.drop m, 0 ≤ j ∧ j < (sp.length : Int)) := by
  intro d
  induction d with
  | zero =>
    intro m st l hm hV hz h2
    refine ⟨(true, st, l), Ev.step (fun q => by rw [tO.kids]) (Ev.neg (by omega) (Ev.now _)), ⟨hV, Nat.le_refl _, Nat.le_refl _⟩, fun _ => ?_⟩
    rw [List.drop_eq_nil_of_le (by omega)]
    intro j hj; cases hj
  | succ d ih =>
    intro m st l hm hV hz h2
    have hml : m < js.length := by omega
    by_cases hr : rd js m < 0 ∨ rd js m ≥ (sp.length : Int)
    · exact ⟨(false, st, l), Ev.step (fun q => by rw [tO.kids]) (Ev.pos hml (Ev.pos hr (Ev.now _))), ⟨hV, Nat.le_refl _, Nat.le_refl _⟩, fun h => by cases h⟩
    · obtain ⟨r, hE, hR⟩ := Q (rd js m) st l hV (by omega) (by omega) hz h2
      obtain ⟨hV1, h3, h4⟩ := hR
      by_cases hb : r.1 = true
      · obtain ⟨r2, hE2, ⟨hV2, h5, h6⟩, h7⟩ := ih (m + 1) r.2.1 r.2.2 (by omega) hV1 (by omega) (by omega)
        refine ⟨r2, Ev.step (fun q => by rw [tO.kids]) (Ev.pos hml (Ev.neg hr (Ev.bind hE (Ev.pos hb hE2)))), ⟨hV2, by omega, by omega⟩, fun ht => ?_⟩
        rw [drop_cons' hml 0]
        intro j hj
        rcases List.mem_cons.1 hj with rfl | hj
        · rw [← rd_nat]; omega
        · exact h7 ht j hj
      · exact ⟨r, Ev.step (fun q => by rw [tO.kids]) (Ev.pos hml (Ev.neg hr (Ev.bind hE (Ev.neg hb (Ev.now _))))), ⟨hV1, h3, h4⟩, fun h => absurd h hb⟩
theorem visit_ev {sp : List S117} (hw : wide sp) : ∀ zz, VQ sp zz := by
  intro zz
  induction zz with
  | zero =>
    intro i st l hV h0 h1 hz h2
    have hil : i.toNat < st.length := by have := hV.len; omega
    have hp : rd st i > 0 := by
      unfold rd
      rw [List.getD_eq_getElem?_getD, List.getElem?_eq_getElem hil, Option.getD_some]
      have h3 := hV.pos _ (List.getElem_mem hil)
      have h4 : st[i.toNat] ≠ 0 := fun e => by
        have : 0 < zs st := by
          unfold zs
          exact List.count_pos_iff.2 (e ▸ List.getElem_mem hil)
        omega
      omega
    have hg : 0 ≤ i ∧ i < (st.length : Int) ∧ i < (sp.length : Int) := ⟨h0, by have := hV.len; omega, h1⟩
    exact ⟨(rd st i == 2, st, l), Ev.step (fun q => by rw [tO.visit]) (Ev.pos hg (Ev.pos hp (Ev.now _))), hV, Nat.le_refl _, Nat.le_refl _⟩
  | succ zz ih =>
    intro i st l hV h0 h1 hz h2
    have hil : i.toNat < st.length := by have := hV.len; omega
    have hg : 0 ≤ i ∧ i < (st.length : Int) ∧ i < (sp.length : Int) := ⟨h0, by have := hV.len; omega, h1⟩
    by_cases hp : rd st i > 0
    · exact ⟨(rd st i == 2, st, l), Ev.step (fun q => by rw [tO.visit]) (Ev.pos hg (Ev.pos hp (Ev.now _))), hV, Nat.le_refl _, Nat.le_refl _⟩
    · have hz0 : st[i.toNat] = 0 := by
        unfold rd at hp
        rw [List.getD_eq_getElem?_getD, List.getElem?_eq_getElem hil, Option.getD_some] at hp
        have h3 := hV.pos _ (List.getElem_mem hil)
        omega
      have hz1 := zs_set_zero hil 1 (by decide) hz0
      have hV1 : VO sp (st.set i.toNat 1) l := ⟨by rw [List.length_set]; exact hV.len, pos_set hV.pos (by decide), hV.good⟩
      have hwi : ((rd_T117 sp i).f3.map List.length).sum + (rd_T117 sp i).f3.length ≤ 2000000 := hw _ (getD_mem (by omega))
      obtain ⟨r, hE, ⟨hV2, h3, h4⟩, h5⟩ := kids_ev ih (below' (rd_T117 sp i).f3) _ 0 _ l (Nat.zero_add _) hV1 (by omega) (by omega)
      have hB := below_spec (rd_T117 sp i).f0 (rd_T117 sp i).f1 (rd_T117 sp i).f2 (rd_T117 sp i).f3 hwi
      by_cases hb : r.1 = true
      · have hl2 := hV2.len
        have hir : i.toNat < r.2.1.length := by omega
        have hg2 : r.2.2.length < 1000 ∧ i < (r.2.1.length : Int) := ⟨by omega, by omega⟩
        refine ⟨(true, r.2.1.set i.toNat 2, r.2.2 ++ [i]), Ev.step (fun q => by rw [tO.visit]) (Ev.pos hg (Ev.neg hp (Ev.bind hB (Ev.bind hE (Ev.pos hb (Ev.pos hg2 (Ev.now _))))))), ⟨by rw [List.length_set]; exact hl2, pos_set hV2.pos (by decide), ?_⟩, ?_, ?_⟩
        · intro j hj
          rcases List.mem_append.1 hj with hj | hj
          · exact hV2.good j hj
          · simp at hj
            subst hj
            exact ⟨⟨h0, h1⟩, fun k hk => h5 hb k (by simpa using hk)⟩
        · have := zs_set_le hir 2 (by decide)
          simp only [List.length_append, List.length_singleton]
          omega
        · have := zs_set_le hir 2 (by decide)
          show zs (r.2.1.set i.toNat 2) ≤ zs st
          omega
      · exact ⟨r, Ev.step (fun q => by rw [tO.visit]) (Ev.pos hg (Ev.neg hp (Ev.bind hB (Ev.bind hE (Ev.neg hb (Ev.now _)))))), hV2, by omega, by omega⟩
theorem all_ev {sp : List S117} (hw : wide sp) (hn : sp.length ≤ 200) : ∀ (d i : Nat) (st l : List Int), i + d = sp.length → VO sp st l → zs st + l.length ≤ 200 →
    ∃ r : List Int × Bool, Ev (fun q => tO.all sp q i st l) r ∧ (∀ j ∈ r.1, goodI sp j) := by
  intro d
  induction d with
  | zero =>
    intro i st l hi hV h2
    exact ⟨(l, true), Ev.step (fun q => by rw [tO.all]) (Ev.neg (by omega) (Ev.now _)), hV.good⟩
  | succ d ih =>
    intro i st l hi hV h2
    obtain ⟨r, hE, hV1, h3, h4⟩ := visit_ev hw (zs st) (i : Int) st l hV (by omega) (by omega) (Nat.le_refl _) h2
    by_cases hb : r.1 = true
    · obtain ⟨r2, hE2, hg⟩ := ih (i + 1) r.2.1 r.2.2 (by omega) hV1 (by omega)
      exact ⟨r2, Ev.step (fun q => by rw [tO.all]) (Ev.pos (by omega) (Ev.bind hE (Ev.pos hb hE2))), hg⟩
    · exact ⟨([], false), Ev.step (fun q => by rw [tO.all]) (Ev.pos (by omega) (Ev.bind hE (Ev.neg hb (Ev.now _)))), fun j hj => by cases hj⟩
theorem order_ev (sp : List S117) (root : Int) (hw : wide sp) : ∃ r : List Int × Bool, Ev (fun k => thicket_order.f k sp root) r ∧ (r.2 = true → (sp.length ≤ 200 ∧ 0 ≤ root ∧ root < (sp.length : Int)) ∧ ∀ j ∈ r.1, goodI sp j) := by
  unfold thicket_order.f
  by_cases c : (sp.length : Int) > 200 ∨ root < 0 ∨ root ≥ (sp.length : Int)
  · exact ⟨([], false), Ev.pos c (Ev.now _), fun h => by cases h⟩
  · have hn : sp.length ≤ 200 := by omega
    obtain ⟨r, hE, hg⟩ := all_ev hw hn sp.length 0 (List.replicate sp.length 0) [] (by omega) ⟨by simp, fun x hx => by rw [List.eq_of_mem_replicate hx]; exact Int.le_refl _, fun j hj => by cases hj⟩ (by simp [zs]; omega)
    exact ⟨r, Ev.neg c hE, fun _ => ⟨⟨by omega, by omega, by omega⟩, hg⟩⟩
/-- thicket.Count comes to an end. -/
theorem count_l2 {sp : List S117} {root : Int} {ord : List Int} {N : Nat} (x8 x26 x27 : Int) (ways : List (List Int)) (x48 x49 : Int) (h8 : 0 ≤ x8) (h8' : x8 < (N : Int)) (H : ∀ x6 : List Int, x6.length = N → ∃ r, Ev (fun k => thicket_Count.l1 k ord x6 x8 x26 x27 ways x48 (wrap64 (x49 + 1)) sp root) r)
    (way : List Int) (hl : way.length ≤ 4000000) (hj : ∀ j ∈ way, 0 ≤ j ∧ j < (N : Int)) : ∀ (d i : Nat) (x6 : List Int) (x11 : Int), i + d = way.length → x6.length = N →
    ∃ r, Ev (fun k => thicket_Count.l2 k ord x6 x8 x11 x26 x27 ways x48 x49 way (way.length : Int) (i : Int) sp root) r := by
  intro d
  induction d with
  | zero =>
    intro i x6 x11 hi h6
    obtain ⟨r, hr⟩ := H (x6.set x8.toNat (mn (wrap64 (rd x6 x8 + x11)) 1099511627777)) (by rw [List.length_set]; exact h6)
    exact ⟨r, Ev.step (fun k => by rw [thicket_Count.l2]) (Ev.neg (by omega) (Ev.pos h8 (Ev.pos (by omega) hr)))⟩
  | succ d ih =>
    intro i x6 x11 hi h6
    have hm := hj _ (getD_mem (xs := way) (i := i) (d := 0) (by omega))
    rw [← rd_nat] at hm
    have e : wrap64 ((i : Int) + 1) = ((i + 1 : Nat) : Int) := by rw [w64 (by omega) (by omega)]; rfl
    by_cases hp : rd x6 (rd way i) > 0
    · by_cases hc : x11 > wrap64 ((1099511627777 : Int) / rd x6 (rd way i))
      · obtain ⟨r, hr⟩ := ih (i + 1) x6 1099511627777 (by omega) h6
        exact ⟨r, Ev.step (fun k => by rw [thicket_Count.l2]) (Ev.pos (by omega) (Ev.pos (by omega) (Ev.pos (by omega) (Ev.pos hm.1 (Ev.pos (by omega) (Ev.pos hp (Ev.neg (by omega) (Ev.pos hc (by rw [e]; exact hr)))))))))⟩
      · obtain ⟨r, hr⟩ := ih (i + 1) x6 (wrap64 (x11 * rd x6 (rd way i))) (by omega) h6
        exact ⟨r, Ev.step (fun k => by rw [thicket_Count.l2]) (Ev.pos (by omega) (Ev.pos (by omega) (Ev.pos (by omega) (Ev.pos hm.1 (Ev.pos (by omega) (Ev.pos hp (Ev.neg (by omega) (Ev.neg hc (by rw [e]; exact hr)))))))))⟩
    · obtain ⟨r, hr⟩ := ih (i + 1) x6 (wrap64 (x11 * rd x6 (rd way i))) (by omega) h6
      exact ⟨r, Ev.step (fun k => by rw [thicket_Count.l2]) (Ev.pos (by omega) (Ev.pos (by omega) (Ev.pos (by omega) (Ev.pos hm.1 (Ev.pos (by omega) (Ev.neg hp (by rw [e]; exact hr)))))))⟩
theorem count_l1 {sp : List S117} {root : Int} {ord : List Int} {N : Nat} (x8 x26 x27 : Int) (ways : List (List Int)) (h8 : 0 ≤ x8) (h8' : x8 < (N : Int)) (H : ∀ x6 : List Int, x6.length = N → ∃ r, Ev (fun k => thicket_Count.l0 k ord x6 x26 (wrap64 (x27 + 1)) sp root) r)
    (hl : (ways.map List.length).sum + ways.length ≤ 2000000) (hj : ∀ j ∈ below' ways, 0 ≤ j ∧ j < (N : Int)) : ∀ (d i : Nat) (x6 : List Int), i + d = ways.length → x6.length = N →
    ∃ r, Ev (fun k => thicket_Count.l1 k ord x6 x8 x26 x27 ways (ways.length : Int) (i : Int) sp root) r := by
  intro d
  induction d with
  | zero =>
    intro i x6 hi h6
    obtain ⟨r, hr⟩ := H x6 h6
    exact ⟨r, Ev.step (fun k => by rw [thicket_Count.l1]) (Ev.neg (by omega) hr)⟩
  | succ d ih =>
    intro i x6 hi h6
    have hm := mn_range (ways.getD i [])
    have hmem := getD_mem (xs := ways) (i := i) (d := []) (by omega)
    have hlen := sum_mem hmem
    have e : wrap64 ((i : Int) + 1) = ((i + 1 : Nat) : Int) := by rw [w64 (by omega) (by omega)]; rfl
    obtain ⟨r, hr⟩ := count_l2 (sp := sp) (root := root) (ord := ord) (N := N) x8 x26 x27 ways (ways.length : Int) (i : Int) h8 h8' (fun y hy => by rw [e]; exact ih (i + 1) y (by omega) hy) ((ways.getD i []).drop 1) (by rw [List.length_drop]; omega)
      (fun j hjm => hj j (List.mem_flatMap.2 ⟨_, hmem, hjm⟩)) _ 0 x6 1 (Nat.zero_add _) h6
    refine ⟨r, Ev.step (fun k => by rw [thicket_Count.l1]) ?_⟩
    refine Ev.pos (by omega) (Ev.pos (by omega) (Ev.pos (by omega) ?_))
    rw [rdl_nat]
    refine Ev.pos hm.1 (Ev.pos hm.2 ?_)
    rw [drop_mn]
    exact hr
theorem count_l0 {sp : List S117} {root : Int} {ord : List Int} (hw : wide sp) (hn : sp.length ≤ 200) (hr0 : 0 ≤ root) (hr1 : root < (sp.length : Int)) (ho : ord.length ≤ 4000000) (hg : ∀ j ∈ ord, goodI sp j) : ∀ (d i : Nat) (x6 : List Int), i + d = ord.length → x6.length = sp.length →
    ∃ r, Ev (fun k => thicket_Count.l0 k ord x6 (ord.length : Int) (i : Int) sp root) r := by
  intro d
  induction d with
  | zero =>
    intro i x6 hi h6
    by_cases c : rd x6 root > 1099511627776
    · exact ⟨_, Ev.step (fun k => by rw [thicket_Count.l0]) (Ev.neg (by omega) (Ev.pos hr0 (Ev.pos (by omega) (Ev.pos c (Ev.now _)))))⟩
    · exact ⟨_, Ev.step (fun k => by rw [thicket_Count.l0]) (Ev.neg (by omega) (Ev.pos hr0 (Ev.pos (by omega) (Ev.neg c (Ev.now _)))))⟩
  | succ d ih =>
    intro i x6 hi h6
    obtain ⟨⟨g0, g1⟩, g2⟩ := hg _ (getD_mem (xs := ord) (i := i) (d := 0) (by omega))
    rw [← rd_nat] at g0 g1 g2
    have hwi : ((rd_T117 sp (rd ord i)).f3.map List.length).sum + (rd_T117 sp (rd ord i)).f3.length ≤ 2000000 := hw _ (getD_mem (by omega))
    have e : wrap64 ((i : Int) + 1) = ((i + 1 : Nat) : Int) := by rw [w64 (by omega) (by omega)]; rfl
    have J : ∀ y : List Int, y.length = sp.length → ∃ r, Ev (fun k => thicket_Count.j1 k ord y (rd ord i) (ord.length : Int) (i : Int) sp root) r := fun y hy => by
      obtain ⟨r, hr⟩ := count_l1 (sp := sp) (root := root) (ord := ord) (N := sp.length) (rd ord i) (ord.length : Int) (i : Int) (rd_T117 sp (rd ord i)).f3 g0 g1 (fun z hz => by rw [e]; exact ih (i + 1) z (by omega) hz) hwi g2 _ 0 y (Nat.zero_add _) hy
      refine ⟨r, Ev.step (fun k => by rw [thicket_Count.j1]) ?_⟩
      exact Ev.pos g0 (Ev.pos g1 hr)
    by_cases c : (((rd_T117 sp (rd ord i)).f3).length : Int) = 0
    · obtain ⟨r, hr⟩ := J (x6.set (rd ord i).toNat 1) (by rw [List.length_set]; exact h6)
      exact ⟨r, Ev.step (fun k => by rw [thicket_Count.l0]) (Ev.pos (by omega) (Ev.pos (by omega) (Ev.pos (by omega) (Ev.pos g0 (Ev.pos g1 (Ev.pos c (Ev.pos (by omega) hr)))))))⟩
    · obtain ⟨r, hr⟩ := J x6 h6
      exact ⟨r, Ev.step (fun k => by rw [thicket_Count.l0]) (Ev.pos (by omega) (Ev.pos (by omega) (Ev.pos (by omega) (Ev.pos g0 (Ev.pos g1 (Ev.neg c hr))))))⟩
theorem ord_small {sp : List S117} (hw : wide sp) (hn : sp.length ≤ 200) : ∀ (d i : Nat) (st l : List Int), i + d = sp.length → VO sp st l → zs st + l.length ≤ 200 → ∀ r : List Int × Bool, Ev (fun q => tO.all sp q i st l) r → r.1.length ≤ 200 := by
  intro d
  induction d with
  | zero =>
    intro i st l hi hV h2 r hr
    have := Ev.uniq hr (Ev.step (fun q => by rw [tO.all]) (Ev.neg (by omega) (Ev.now (l, true))))
    subst this
    show l.length ≤ 200
    omega
  | succ d ih =>
    intro i st l hi hV h2 r hr
    obtain ⟨r1, hE, hV1, h3, h4⟩ := visit_ev hw (zs st) (i : Int) st l hV (by omega) (by omega) (Nat.le_refl _) h2
    by_cases hb : r1.1 = true
    · obtain ⟨r2, hE2, hg⟩ := all_ev hw hn d (i + 1) r1.2.1 r1.2.2 (by omega) hV1 (by omega)
      have := Ev.uniq hr (Ev.step (fun q => by rw [tO.all]) (Ev.pos (by omega) (Ev.bind hE (Ev.pos hb hE2))))
      subst this
      exact ih (i + 1) r1.2.1 r1.2.2 (by omega) hV1 (by omega) r hE2
    · have := Ev.uniq hr (Ev.step (fun q => by rw [tO.all]) (Ev.pos (by omega) (Ev.bind hE (Ev.neg hb (Ev.now ([], false))))))
      subst this
      simp
/-- It is told of any spots; a right one has a root among its spots. -/
theorem sound_ev (sp : List S117) (root : Int) (hw : wide sp) : ∃ b : Bool, Ev (fun k => store_sound.f k sp root) b ∧ (b = true → 1 ≤ sp.length) := by
  unfold store_sound.f thicket_Count.f
  obtain ⟨r, hE, hg⟩ := order_ev sp root hw
  by_cases hb : r.2 = true
  · obtain ⟨⟨hn, h0, h1⟩, hgood⟩ := hg hb
    have hord : r.1.length ≤ 200 := by
      unfold thicket_order.f at hE
      have hc : ¬ ((sp.length : Int) > 200 ∨ root < 0 ∨ root ≥ (sp.length : Int)) := by omega
      refine ord_small hw hn sp.length 0 (List.replicate sp.length 0) [] (by omega) ⟨by simp, fun x hx => by rw [List.eq_of_mem_replicate hx]; exact Int.le_refl _, fun j hj => by cases hj⟩ (by simp [zs]; omega) r ?_
      exact Ev.congr (fun k => (if_neg hc).symm) hE
    obtain ⟨c, hc⟩ := count_l0 (sp := sp) (root := root) (ord := r.1) hw hn h0 h1 (by omega) hgood _ 0 (List.replicate sp.length 0) (Nat.zero_add _) (by simp)
    refine ⟨c.2 != 3, Ev.bind (Ev.bind hE (Ev.pos hb (Ev.pos (by omega) (Ev.pos (by omega) ?_)))) (Ev.now _), fun _ => by omega⟩
    rw [Int.toNat_natCast]
    exact hc
  · refine ⟨false, Ev.bind (Ev.bind hE (Ev.neg hb (Ev.now (0, 3)))) (Ev.now _), fun h => by cases h⟩

end Go.Proofs.Ythgiiikjcfhgjaa.PKM
