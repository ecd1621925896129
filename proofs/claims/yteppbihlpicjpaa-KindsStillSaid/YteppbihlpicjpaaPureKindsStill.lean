/- The law KindsStill, as plain Lean: where each word's powers end in one, a word written as often as there are kinds does what one more does; the others' machine has the same kinds. Conditions: none beyond the kinds of the arguments. -/
import Derived.Test.YteppbihlpicjpaaPMKall
import Derived.Test.YteppbihlpicjpaaGM21
namespace Go.Proofs.Yteppbihlpicjpaa.Pure
set_option linter.unusedVariables false
set_option linter.unusedSimpArgs false
open Go.RowKit Go.Proofs.Yteppbihlpicjpaa.GM Go.Proofs.Yteppbihlpicjpaa.PMM Go.Proofs.YteppbihlpicjpaaW.PrintWords Go.Proofs.YteppbihlpicjpaaW.PrintLast Go.Proofs.YteppbihlpicjpaaW.PrintMore

theorem ev_one {α : Type} {g : Nat → Option α} {a b : α} (h : Ev g a) (h2 : Ev g b) : a = b := by
  obtain ⟨x, hx⟩ := h
  obtain ⟨y, hy⟩ := h2
  exact Option.some.inj ((hx (max x y) (Nat.le_max_left _ _)).symm.trans (hy (max x y) (Nat.le_max_right _ _)))
theorem alike_leads {n k : Int} {nx : List (List Int)} {st f : Int} (h : GoodM n k nx st f) {F : List Int} (al : Alike' n k nx f F) : ∀ (w : List Int) (i j : Int), (∀ s ∈ w, 0 ≤ s ∧ s < k) → 0 ≤ i → i < n → 0 ≤ j → j < n → F.getD i.toNat 0 = F.getD j.toNat 0 → F.getD (leads nx i w).toNat 0 = F.getD (leads nx j w).toNat 0 := by
  intro w
  induction w with
  | nil => intro i j _ _ _ _ _ e; exact e
  | cons s w ih =>
    intro i j hw i0 i1 j0 j1 e
    have hs := hw s List.mem_cons_self
    have a := stepM_in h ⟨i0, i1⟩ hs
    have b := stepM_in h ⟨j0, j1⟩ hs
    refine ih (stepM nx i s) (stepM nx j s) (fun x hx => hw x (List.mem_cons_of_mem _ hx)) a.1 a.2 b.1 b.2 ?_
    rw [← al.nxt i s i0 i1 hs.1 hs.2, ← al.nxt j s j0 j1 hs.1 hs.2, e]
theorem alike_eqv {n k : Int} {nx : List (List Int)} {st f : Int} (h : GoodM n k nx st f) {F : List Int} (al : Alike' n k nx f F) {i j : Int} (i0 : 0 ≤ i) (i1 : i < n) (j0 : 0 ≤ j) (j1 : j < n) (e : F.getD i.toNat 0 = F.getD j.toNat 0) : Eqv nx k f i j := by
  intro w hw
  have a := leads_in h hw ⟨i0, i1⟩
  have b := leads_in h hw ⟨j0, j1⟩
  rw [← al.fin _ a.1 a.2, ← al.fin _ b.1 b.2, alike_leads h al w i j hw i0 i1 j0 j1 e]
theorem eqv_not {n k : Int} {nx : List (List Int)} {st f g : Int} (h : GoodM n k nx st f) (hc : ∀ i, 0 ≤ i → i < n → bit g i = !bit f i) {i j : Int} (i0 : 0 ≤ i) (i1 : i < n) (j0 : 0 ≤ j) (j1 : j < n) : Eqv nx k g i j → Eqv nx k f i j := by
  intro e w hw
  have x := leads_in h hw ⟨i0, i1⟩
  have y := leads_in h hw ⟨j0, j1⟩
  have := e w hw
  rw [hc _ x.1 x.2, hc _ y.1 y.2] at this
  exact Bool.not_inj this
theorem alike_le {n k : Int} {nx : List (List Int)} {st f g : Int} (h : GoodM n k nx st f) (h2 : GoodM n k nx st g) (hc : ∀ i, 0 ≤ i → i < n → bit g i = !bit f i) {F G : List Int} (a : Alike' n k nx f F) (b : Alike' n k nx g G) {i : Nat} (hi : (i : Int) < n) : F.getD i 0 ≤ G.getD i 0 := by
  have rb := b.rep (i : Int) (by omega) hi
  rw [Int.toNat_natCast] at rb
  obtain ⟨y, hy⟩ := Int.eq_ofNat_of_zero_le rb.1
  rw [hy] at rb ⊢
  have e1 : Eqv nx k g (y : Int) (i : Int) := alike_eqv h2 b (by omega) (by omega) (by omega) hi (by rw [rb.2.2, Int.toNat_natCast, hy])
  have e2 := eqv_not h hc (by omega) (by omega) (by omega) hi e1
  have e3 := a.one y i (by omega) hi e2
  have ra := a.rep (y : Int) (by omega) (by omega)
  rw [Int.toNat_natCast] at ra
  omega
/-- The classes of a machine are those of the others' machine. -/
theorem alike_one {n k : Int} {nx : List (List Int)} {st f g : Int} (h : GoodM n k nx st f) (h2 : GoodM n k nx st g) (hc : ∀ i, 0 ≤ i → i < n → bit g i = !bit f i) {F G : List Int} (a : Alike' n k nx f F) (b : Alike' n k nx g G) : F = G := by
  have hl := h.len
  refine List.ext_getElem (by rw [a.len, b.len]) fun i i1 i2 => ?_
  have eF : F[i]'i1 = F.getD i 0 := by rw [List.getD_eq_getElem?_getD, List.getElem?_eq_getElem i1, Option.getD_some]
  have eG : G[i]'i2 = G.getD i 0 := by rw [List.getD_eq_getElem?_getD, List.getElem?_eq_getElem i2, Option.getD_some]
  rw [a.len] at i1
  have c1 := alike_le h h2 hc a b (i := i) (by omega)
  have c2 := alike_le h2 h (fun j j0 j1 => by rw [hc j j0 j1, Bool.not_not]) b a (i := i) (by omega)
  rw [eF, eG]
  omega
theorem small_any (f g : Int) (n k : Int) (nx : List (List Int)) (st : Int) (F : List Int) : ∀ q : Nat,
    (∀ x6 x8 a b c d e, least_small.l0 q F x6 x8 n k nx st f a b c d e = least_small.l0 q F x6 x8 n k nx st g a b c d e) ∧
    (∀ x6 x8 x9 x29 x30 a b c d e, least_small.l1 q F x6 x8 x9 x29 x30 n k nx st f a b c d e = least_small.l1 q F x6 x8 x9 x29 x30 n k nx st g a b c d e) := by
  intro q
  induction q with
  | zero => exact ⟨fun _ _ _ _ _ _ _ => rfl, fun _ _ _ _ _ _ _ _ _ _ => rfl⟩
  | succ q ih =>
    constructor
    · intros
      rw [least_small.l0, least_small.l0]
      simp only [ih.1, ih.2]
    · intros
      rw [least_small.l1, least_small.l1]
      simp only [ih.1, ih.2]
/-- The least machine of a machine and that of the others' machine differ in the final states alone. -/
theorem Small_two {n k : Int} {nx : List (List Int)} {st f g : Int} (h : GoodM n k nx st f) (h2 : GoodM n k nx st g) (f0 : 0 ≤ f) (f1 : f < 4294967296) (g0 : 0 ≤ g) (g1 : g < 4294967296) (hc : ∀ i, 0 ≤ i → i < n → bit g i = !bit f i) :
    ∃ (N : Int) (next : List (List Int)) (T U : Int), GoodM N k next 0 T ∧ Ev (fun q => least_Small.f q n k nx st f) (N, k, next, 0, T) ∧ Ev (fun q => least_Small.f q n k nx st g) (N, k, next, 0, U) := by
  obtain ⟨N, next, T, T0, T1, gN, hN, hw, hs⟩ := Small_good h f0 f1
  obtain ⟨M, next2, U, U0, U1, gM, hM, hw2, hs2⟩ := Small_good h2 g0 g1
  obtain ⟨F, al, hF⟩ := alike_good h f0 f1
  obtain ⟨G, bl, hG⟩ := alike_good h2 g0 g1
  obtain rfl := alike_one h h2 hc al bl
  obtain ⟨names, nx3, a1, a2, a3, inv, a5⟩ := small_spec h al
  have hn7 := h.n7
  have hn1 := h.n1
  have hnl := names_len hn7 hn1 inv.nodup inv.inn
  obtain ⟨T', e1, e2, e3⟩ := Small_l0 f0 f1 names (by omega) (fun x hx => (inv.inn x hx).1) n k nx st names.length k 0 nx3 names.length 0 0 (by omega) (by simp) (fun j => by simp)
  obtain ⟨U', u1, u2, u3⟩ := Small_l0 g0 g1 names (by omega) (fun x hx => (inv.inn x hx).1) n k nx st names.length k 0 nx3 names.length 0 0 (by omega) (by simp) (fun j => by simp)
  have b5 : Ev (fun q => least_small.f q n k nx st g F) ((names.length : Int), k, nx3, 0, 0, names) := by
    refine Ev.congr (fun q => ?_) a5
    unfold least_small.f
    simp only [(small_any g f n k nx st F q).1]
  have r1 : Ev (fun q => least_Small.f q n k nx st f) ((names.length : Int), k, nx3, 0, (T' : Int)) := Ev.congr (fun q => by rw [least_Small.f]) (Ev.bind hF (Ev.bind a5 e3))
  have r2 : Ev (fun q => least_Small.f q n k nx st g) ((names.length : Int), k, nx3, 0, (U' : Int)) := Ev.congr (fun q => by rw [least_Small.f]) (Ev.bind hG (Ev.bind b5 u3))
  have same := ev_one hs r1
  injection same with s1 s2
  injection s2 with s2 s3
  injection s3 with s3 s4
  injection s4 with s4 s5
  subst s1 s3 s5
  exact ⟨_, _, _, _, gN, r1, r2⟩
theorem KindsStill : coppicerkeep_KindsStill.Pure := by
  intro n k nx st f w _ _ _ _ wf ww
  obtain ⟨f0, f1⟩ := wf_u32 wf
  have f1' : f < 4294967296 := by omega
  obtain ⟨e1, he1, hi1⟩ := check_spec (n := n) (k := k) (nx := nx) (s := st) f0 f1'
  obtain ⟨r1, hr1, hj1⟩ := refcheck_spec (n := n) (k := k) (nx := nx) (s := st) f0 f1'
  refine Ev.rounds ?_
  refine Ev.congr (fun q => by rw [coppicerkeep_KindsStill.f]) ?_
  by_cases c : GoodM n k nx st f
  · obtain ⟨g, hnot, g0, g1, gg, hc⟩ := not_good c f0 f1'
    obtain ⟨e2, he2, hi2⟩ := check_spec (n := n) (k := k) (nx := nx) (s := st) g0 g1
    obtain ⟨N, next, T, U, gN, hs, hs2⟩ := Small_two c gg f0 f1' g0 g1 hc
    obtain ⟨L, hl, kw, h0, sh, hall⟩ := all_spec gN
    by_cases big : (L.length : Int) > 100
    · have k1 : Ev (fun q => kinds_kinds.f q n k nx st f) ([], 1) := Ev.congr (fun q => by rw [kinds_kinds.f]) (Ev.bind he1 (Ev.pos (hi1.2 c) (Ev.bind hs (Ev.bind (hall _ _) (Ev.pos big (Ev.now _))))))
      have k2 : Ev (fun q => kinds_kinds.f q n k nx st g) ([], 1) := Ev.congr (fun q => by rw [kinds_kinds.f]) (Ev.bind he2 (Ev.pos (hi2.2 gg) (Ev.bind hs2 (Ev.bind (hall _ _) (Ev.pos big (Ev.now _))))))
      have s1 : Ev (fun q => kinds_Still.f q n k nx st f) (false, 1) := Ev.congr (fun q => by rw [kinds_Still.f]) (Ev.bind k1 (Ev.neg (show ¬ (1 : Int) = 0 by decide) (Ev.now _)))
      have s2 : Ev (fun q => kinds_Still.f q n k nx st g) (false, 1) := Ev.congr (fun q => by rw [kinds_Still.f]) (Ev.bind k2 (Ev.neg (show ¬ (1 : Int) = 0 by decide) (Ev.now _)))
      have z1 : Ev (fun q => kinds_Size.f q n k nx st f) (0, 1) := Ev.congr (fun q => by rw [kinds_Size.f]) (Ev.bind k1 (Ev.now _))
      have z2 : Ev (fun q => kinds_Size.f q n k nx st g) (0, 1) := Ev.congr (fun q => by rw [kinds_Size.f]) (Ev.bind k2 (Ev.now _))
      refine Ev.bind s1 (Ev.bind z1 (Ev.bind hr1 (Ev.pos (hj1.2 c) (Ev.bind hnot (Ev.bind s2 (Ev.bind z2 ?_))))))
      refine Ev.pos rfl (Ev.pos rfl (Ev.pos rfl (Ev.pos rfl (Ev.neg (by simp) ?_))))
      refine Ev.step (fun q => by rw [coppicerkeep_KindsStill.j0]) ?_
      refine Ev.neg (by simp) ?_
      refine Ev.neg (show ¬ (1 : Int) = 0 by decide) ?_
      exact Ev.pos rfl (Ev.val rfl)
    · have k1 : Ev (fun q => kinds_kinds.f q n k nx st f) (L, 0) := Ev.congr (fun q => by rw [kinds_kinds.f]) (Ev.bind he1 (Ev.pos (hi1.2 c) (Ev.bind hs (Ev.bind (hall _ _) (Ev.neg big (Ev.now _))))))
      have k2 : Ev (fun q => kinds_kinds.f q n k nx st g) (L, 0) := Ev.congr (fun q => by rw [kinds_kinds.f]) (Ev.bind he2 (Ev.pos (hi2.2 gg) (Ev.bind hs2 (Ev.bind (hall _ _) (Ev.neg big (Ev.now _))))))
      obtain ⟨b, hb, hbi⟩ := still_l0 gN L (by omega) kw L.length 0 (by omega)
      have s1 : Ev (fun q => kinds_Still.f q n k nx st f) (b, 0) := Ev.congr (fun q => by rw [kinds_Still.f]) (Ev.bind k1 (Ev.pos rfl hb))
      have s2 : Ev (fun q => kinds_Still.f q n k nx st g) (b, 0) := Ev.congr (fun q => by rw [kinds_Still.f]) (Ev.bind k2 (Ev.pos rfl hb))
      have z1 : Ev (fun q => kinds_Size.f q n k nx st f) ((L.length : Int), 0) := Ev.congr (fun q => by rw [kinds_Size.f]) (Ev.bind k1 (Ev.now _))
      have z2 : Ev (fun q => kinds_Size.f q n k nx st g) ((L.length : Int), 0) := Ev.congr (fun q => by rw [kinds_Size.f]) (Ev.bind k2 (Ev.now _))
      have hpos : 0 < L.length := List.length_pos_of_mem h0
      refine Ev.bind s1 (Ev.bind z1 (Ev.bind hr1 (Ev.pos (hj1.2 c) (Ev.bind hnot (Ev.bind s2 (Ev.bind z2 ?_))))))
      refine Ev.pos rfl (Ev.pos rfl (Ev.pos rfl (Ev.pos rfl (Ev.neg (by simp) ?_))))
      have out : ∀ (x : Bool), x = true → Ev (fun q => coppicerkeep_KindsStill.j1 q w (L.length : Int) x n k nx st f) true := by
        intro x hx
        refine Ev.step (fun q => by rw [coppicerkeep_KindsStill.j1]) (Ev.pos hx (Ev.val ?_))
        rw [decide_eq_true (by omega)]
      refine Ev.step (fun q => by rw [coppicerkeep_KindsStill.j0]) (Ev.neg (by simp) (Ev.pos rfl (Ev.neg (by omega) ?_)))
      by_cases cb : b = true
      · refine Ev.pos cb ?_
        obtain ⟨x, hx, hxi⟩ := good_spec (n := n) (k := k) (nx := nx) (s := st) f0 f1' w
        refine Ev.bind hx ?_
        by_cases cx : x = true
        · refine Ev.pos cx ?_
          have gw := (hxi.1 cx).2
          by_cases cl : (w.length : Int) = 0
          · exact Ev.pos cl (out _ rfl)
          · refine Ev.neg cl ?_
            have hlw := gw.1
            rw [w64 (n := (L.length : Int) + 1) (by omega) (by omega)]
            have hmul : w.length * (L.length + 1) ≤ 12 * 101 := Nat.mul_le_mul hlw (by omega)
            have hcast : (w.length : Int) * ((L.length : Int) + 1) = ((w.length * (L.length + 1) : Nat) : Int) := by push_cast; rfl
            rw [hcast, w64 (by omega) (by omega)]
            by_cases long : ((w.length * (L.length + 1) : Nat) : Int) > 12
            · exact out _ (decide_eq_true long)
            · rw [decide_eq_false long]
              refine Ev.step (fun q => by rw [coppicerkeep_KindsStill.j1]) (Ev.neg (by simp) ?_)
              refine Ev.bind (again_spec w L.length (by omega) (by omega)) ?_
              rw [w64 (n := (L.length : Int) + 1) (by omega) (by omega)]
              have ha := again_spec w (L.length + 1) (by omega) (by omega)
              refine Ev.bind ha ?_
              have hr : ∀ m, ∀ s ∈ rep w m, 0 ≤ s ∧ s < k := fun m s hs => gw.2 s (rep_mem hs)
              have hm1 : w.length * L.length ≤ w.length * (L.length + 1) := Nat.mul_le_mul_left _ (by omega)
              have ga : GoodW k (rep w L.length) := ⟨by rw [rep_len]; omega, hr _⟩
              have gb : GoodW k (rep w (L.length + 1)) := ⟨by rw [rep_len]; omega, hr _⟩
              refine Ev.bind (same_spec c f0 f1' gN hs ga gb) (Ev.pos rfl (Ev.val ?_))
              refine congrArg some (sameB_iff.2 ?_)
              have every := shut_all h0 (sh (by omega))
              obtain ⟨i, j, hij, hj, e⟩ := two_same L (fun m => ofG (mv N next (rep w m))) (fun m _ => every _ _ rfl (hr m))
              exact still_one gN gw.2 (hbi cb w gw.2 (every _ w rfl gw.2)) hij hj (ofG_ext.1 e)
        · exact Ev.neg cx (out _ rfl)
      · exact Ev.neg cb (out _ rfl)
  · have hne : ¬ e1 = 0 := fun h => c (hi1.1 h)
    have k1 : Ev (fun q => kinds_kinds.f q n k nx st f) ([], e1) := Ev.congr (fun q => by rw [kinds_kinds.f]) (Ev.bind he1 (Ev.neg hne (Ev.now _)))
    have s1 : Ev (fun q => kinds_Still.f q n k nx st f) (false, e1) := Ev.congr (fun q => by rw [kinds_Still.f]) (Ev.bind k1 (Ev.neg hne (Ev.now _)))
    have z1 : Ev (fun q => kinds_Size.f q n k nx st f) (0, e1) := Ev.congr (fun q => by rw [kinds_Size.f]) (Ev.bind k1 (Ev.now _))
    refine Ev.bind s1 (Ev.bind z1 (Ev.bind hr1 (Ev.neg (fun h => c (hj1.1 h)) (Ev.neg hne (Ev.val ?_)))))
    simpa using hne
end Go.Proofs.Yteppbihlpicjpaa.Pure
