/- The law SentenceStar, as plain Lean: what a star takes is nothing, or what it is of and then that again. Conditions: none beyond the kinds of the arguments. -/
import Derived.Test.YtkjhddjenkocjaaPSSref
import Derived.Test.YtkjhddjenkocjaaGS9
namespace Go.Proofs.Ytkjhddjenkocjaa.Pure
set_option linter.unusedVariables false
set_option linter.unusedSimpArgs false
open Go.RowKit Go.Proofs.Ytkjhddjenkocjaa.GS Go.Proofs.Ytkjhddjenkocjaa.PSM Go.Proofs.YtkjhddjenkocjaaW.PrintWords Go.Proofs.YtkjhddjenkocjaaW.PrintLast Go.Proofs.YtkjhddjenkocjaaW.PrintMore

theorem good_pre {k : Int} {l e : List S25} (h : GoodS k ((l ++ [(⟨6, (l.length : Int) - 1, 0⟩ : S25)]) ++ e)) : GoodS k l := by
  have h9 := h.l9
  rw [List.length_append, List.length_append] at h9
  have ok1 := allOk_left h.ok
  have ok := allOk_left ok1
  refine ⟨h.k1, h.k3, ?_, by omega, ok⟩
  have h2 := ok1 l.length (by rw [List.length_append]; simp)
  have e2 := nd_right (l := l) (e := [(⟨6, (l.length : Int) - 1, 0⟩ : S25)]) 0
  rw [Nat.add_zero] at e2
  rw [e2] at h2
  simp only [nd, nodeOk, List.getD_cons_zero] at h2
  omega
theorem SentenceStar : coppicerkeep_SentenceStar.Pure := by
  intro k l w _ wl _
  have hlen : l.length ≤ 5864062014634 := by have := wl.2.1; omega
  refine Ev.rounds ?_
  -- the three sentences
  have key : ∀ {r : Bool} {b1 b2 b3 : Bool × Int} {b4 : Bool}, Ev (fun q => sentence_Takes.f q k (l ++ [(⟨6, (l.length : Int) - 1, 0⟩ : S25)]) w) b1 → Ev (fun q => sentence_Takes.f q k ((l ++ [(⟨6, (l.length : Int) - 1, 0⟩ : S25)]) ++ [(⟨4, (l.length : Int) - 1, (l.length : Int)⟩ : S25), (⟨2, 0, 0⟩ : S25), (⟨5, (l.length : Int) + 1, (l.length : Int) + 2⟩ : S25)]) w) b2 → Ev (fun q => sentence_Takes.f q k ((l ++ [(⟨6, (l.length : Int) - 1, 0⟩ : S25)]) ++ [(⟨6, (l.length : Int), 0⟩ : S25)]) w) b3 → Ev (fun q => coppicerkeep_said.f q k l w) b4 →
      Ev (fun q => if b4 = true then (if (l.length : Int) + 4 > 9 then (some (b2.2 != 0)) else ((sentence_Takes.f q k l w).bind fun bt202 => (if b1.2 = 0 then (if b2.2 = 0 then (if b3.2 = 0 then (if bt202.2 = 0 then (if (b1.1 == b2.1) = true then (if (b1.1 == b3.1) = true then (if bt202.1 = true then (if b1.1 = true then (if (w.length : Int) > 0 then (coppicerkeep_SentenceStar.j1 q true) else (coppicerkeep_SentenceStar.j1 q b1.1)) else (coppicerkeep_SentenceStar.j1 q false)) else (if (w.length : Int) > 0 then (coppicerkeep_SentenceStar.j1 q true) else (coppicerkeep_SentenceStar.j1 q b1.1))) else (coppicerkeep_SentenceStar.j1 q false)) else (coppicerkeep_SentenceStar.j1 q false)) else (coppicerkeep_SentenceStar.j1 q false)) else (coppicerkeep_SentenceStar.j1 q false)) else (coppicerkeep_SentenceStar.j1 q false)) else (coppicerkeep_SentenceStar.j1 q false)))) else (if b1.2 = 0 then (coppicerkeep_SentenceStar.j0 q false) else (if b2.2 = 0 then (coppicerkeep_SentenceStar.j0 q false) else (coppicerkeep_SentenceStar.j0 q (b3.2 != 0))))) r → Ev (fun q => coppicerkeep_SentenceStar.f q k l w) r := by
    intro r b1 b2 b3 b4 h1 h2 h3 h4 h
    refine Ev.congr (fun q => by rw [coppicerkeep_SentenceStar.f]) ?_
    rw [w64 (n := (l.length : Int) - 1) (by omega) (by omega), w64 (n := (l.length : Int) + 1) (by omega) (by omega), w64 (n := (l.length : Int) + 2) (by omega) (by omega), w64 (n := (l.length : Int) + 4) (by omega) (by omega)]
    refine Ev.let_ ?_
    refine Ev.pos (by (try simp only [List.nil_append, List.length_nil, List.length_append, List.length_cons]); omega) ?_
    refine Ev.let_ ?_
    refine Ev.pos (by (try simp only [List.nil_append, List.length_nil, List.length_append, List.length_cons]); omega) ?_
    refine Ev.let_ ?_
    refine Ev.let_ ?_
    refine Ev.pos (by (try simp only [List.nil_append, List.length_nil, List.length_append, List.length_cons]); omega) ?_
    refine Ev.let_ ?_
    refine Ev.let_ ?_
    refine Ev.pos (by (try simp only [List.nil_append, List.length_nil, List.length_append, List.length_cons]); omega) ?_
    refine Ev.let_ ?_
    refine Ev.pos (by (try simp only [List.nil_append, List.length_nil, List.length_append, List.length_cons]); omega) ?_
    refine Ev.let_ ?_
    refine Ev.pos (by (try simp only [List.nil_append, List.length_nil, List.length_append, List.length_cons]); omega) ?_
    simp only [List.nil_append]
    exact Ev.bind h1 (Ev.bind h2 (Ev.bind h3 (Ev.bind h4 h)))
  obtain ⟨b4, h4, h4i⟩ := said_spec k l w
  by_cases g : GoodS k l ∧ GoodW k w
  · obtain ⟨gl, gw⟩ := g
    have hl1 := gl.l1; have hl9 := gl.l9
    have hb4 : b4 = true := h4i.2 ⟨gl, gw⟩
    have okS : AllOk k (l ++ [(⟨6, (l.length : Int) - 1, 0⟩ : S25)]) := allOk_app gl.ok (fun t ht => by
      obtain rfl : t = 0 := by simpa using ht
      refine .inr (.inr (.inr (.inr ⟨rfl, ?_, ?_⟩)))
      · show (0 : Int) ≤ (l.length : Int) - 1
        omega
      · show (l.length : Int) - 1 < ((l.length + 0 : Nat) : Int)
        omega)
    have lenS : (l ++ [(⟨6, (l.length : Int) - 1, 0⟩ : S25)]).length = l.length + 1 := by rw [List.length_append]; rfl
    have ndS : nd (l ++ [(⟨6, (l.length : Int) - 1, 0⟩ : S25)]) l.length = ⟨6, (l.length : Int) - 1, 0⟩ := nd_right (l := l) 0
    generalize hS : l ++ [(⟨6, (l.length : Int) - 1, 0⟩ : S25)] = S at *
    have okA : AllOk k (S ++ [(⟨4, (l.length : Int) - 1, (l.length : Int)⟩ : S25), (⟨2, 0, 0⟩ : S25), (⟨5, (l.length : Int) + 1, (l.length : Int) + 2⟩ : S25)]) := allOk_app okS (fun t ht => by
      have ht3 : t < 3 := ht
      rw [lenS]
      rcases (by omega : t = 0 ∨ t = 1 ∨ t = 2) with rfl | rfl | rfl
      · refine .inr (.inr (.inr (.inl ⟨.inl rfl, ⟨?_, ?_⟩, ?_, ?_⟩)))
        · show (0 : Int) ≤ (l.length : Int) - 1
          omega
        · show (l.length : Int) - 1 < ((l.length + 1 + 0 : Nat) : Int)
          omega
        · show (0 : Int) ≤ (l.length : Int)
          omega
        · show (l.length : Int) < ((l.length + 1 + 0 : Nat) : Int)
          omega
      · exact .inr (.inl rfl)
      · refine .inr (.inr (.inr (.inl ⟨.inr rfl, ⟨?_, ?_⟩, ?_, ?_⟩)))
        · show (0 : Int) ≤ (l.length : Int) + 1
          omega
        · show (l.length : Int) + 1 < ((l.length + 1 + 2 : Nat) : Int)
          omega
        · show (0 : Int) ≤ (l.length : Int) + 2
          omega
        · show (l.length : Int) + 2 < ((l.length + 1 + 2 : Nat) : Int)
          omega)
    have okT : AllOk k (S ++ [(⟨6, (l.length : Int), 0⟩ : S25)]) := allOk_app okS (fun t ht => by
      obtain rfl : t = 0 := by simpa using ht
      rw [lenS]
      refine .inr (.inr (.inr (.inr ⟨rfl, ?_, ?_⟩)))
      · show (0 : Int) ≤ (l.length : Int)
        omega
      · show (l.length : Int) < ((l.length + 1 + 0 : Nat) : Int)
        omega)
    by_cases c : (l.length : Int) + 4 > 9
    · -- too long
      have bad : ¬ (GoodS k (S ++ [(⟨4, (l.length : Int) - 1, (l.length : Int)⟩ : S25), (⟨2, 0, 0⟩ : S25), (⟨5, (l.length : Int) + 1, (l.length : Int) + 2⟩ : S25)]) ∧ GoodW k w) := fun h => by
        have := h.1.l9
        rw [List.length_append, lenS] at this
        simp only [List.length_cons, List.length_nil] at this
        omega
      obtain ⟨e2, e20, h2⟩ := takes_bad bad
      have any : ∀ L : List S25, ∃ b, Ev (fun q => sentence_Takes.f q k L w) b := fun L => by
        by_cases g : GoodS k L ∧ GoodW k w
        · obtain ⟨b, h, _⟩ := takes_good g.1 g.2
          exact ⟨_, h⟩
        · obtain ⟨e, _, h⟩ := takes_bad g
          exact ⟨_, h⟩
      obtain ⟨b1, h1⟩ := any S
      obtain ⟨b3, h3⟩ := any (S ++ [(⟨6, (l.length : Int), 0⟩ : S25)])
      refine key h1 h2 h3 h4 (Ev.pos hb4 (Ev.pos c (Ev.val ?_)))
      simpa using e20
    · have gS : GoodS k S := ⟨gl.k1, gl.k3, by omega, by omega, okS⟩
      have gA : GoodS k (S ++ [(⟨4, (l.length : Int) - 1, (l.length : Int)⟩ : S25), (⟨2, 0, 0⟩ : S25), (⟨5, (l.length : Int) + 1, (l.length : Int) + 2⟩ : S25)]) := ⟨gl.k1, gl.k3, by rw [List.length_append, lenS]; omega, by rw [List.length_append, lenS]; simp only [List.length_cons, List.length_nil]; omega, okA⟩
      have gT : GoodS k (S ++ [(⟨6, (l.length : Int), 0⟩ : S25)]) := ⟨gl.k1, gl.k3, by rw [List.length_append, lenS]; omega, by rw [List.length_append, lenS]; simp only [List.length_cons, List.length_nil]; omega, okT⟩
      obtain ⟨b1, h1, i1⟩ := takes_good gS gw
      obtain ⟨b2, h2, i2⟩ := takes_good gA gw
      obtain ⟨b3, h3, i3⟩ := takes_good gT gw
      obtain ⟨b5, h5, i5⟩ := takes_good gl gw
      have s6 : (nd S l.length).f0 = 6 := by rw [ndS]
      have s1 : (nd S l.length).f1.toNat = l.length - 1 := by rw [ndS]; show ((l.length : Int) - 1).toNat = _; omega
      rw [lenS, Nat.add_sub_cancel] at i1
      -- the star's own body
      have iE : M S w (l.length - 1) 0 w.length ↔ M l w (l.length - 1) 0 w.length := by rw [← hS]; exact M_app gl.ok (by omega)
      have e12 : b1 = b2 := by
        rw [Bool.eq_iff_iff, i1, i2]
        have nA : ∀ t, nd (S ++ [(⟨4, (l.length : Int) - 1, (l.length : Int)⟩ : S25), (⟨2, 0, 0⟩ : S25), (⟨5, (l.length : Int) + 1, (l.length : Int) + 2⟩ : S25)]) (l.length + 1 + t) = nd [(⟨4, (l.length : Int) - 1, (l.length : Int)⟩ : S25), (⟨2, 0, 0⟩ : S25), (⟨5, (l.length : Int) + 1, (l.length : Int) + 2⟩ : S25)] t := fun t => by
          have := nd_right (l := S) (e := [(⟨4, (l.length : Int) - 1, (l.length : Int)⟩ : S25), (⟨2, 0, 0⟩ : S25), (⟨5, (l.length : Int) + 1, (l.length : Int) + 2⟩ : S25)]) t
          rw [lenS] at this
          exact this
        have lenA : (S ++ [(⟨4, (l.length : Int) - 1, (l.length : Int)⟩ : S25), (⟨2, 0, 0⟩ : S25), (⟨5, (l.length : Int) + 1, (l.length : Int) + 2⟩ : S25)]).length - 1 = l.length + 1 + 2 := by
          rw [List.length_append, lenS]; rfl
        rw [lenA]
        have n0 := nA 0
        have n1 := nA 1
        have n2 := nA 2
        have mA : ∀ {i p j : Nat}, i < l.length + 1 → (M (S ++ [(⟨4, (l.length : Int) - 1, (l.length : Int)⟩ : S25), (⟨2, 0, 0⟩ : S25), (⟨5, (l.length : Int) + 1, (l.length : Int) + 2⟩ : S25)]) w i p j ↔ M S w i p j) := fun hi => M_app okS (by omega)
        generalize S ++ [(⟨4, (l.length : Int) - 1, (l.length : Int)⟩ : S25), (⟨2, 0, 0⟩ : S25), (⟨5, (l.length : Int) + 1, (l.length : Int) + 2⟩ : S25)] = A at *
        simp only [nd, List.getD_cons_zero, List.getD_cons_succ] at n0 n1 n2
        have q2 : M A w (l.length + 1 + 2) 0 w.length ↔ M A w (l.length + 1) 0 w.length ∨ M A w (l.length + 2) 0 w.length := by
          rw [M_or (show (nd A (l.length + 1 + 2)).f0 = 5 by unfold nd; rw [n2])]
          unfold nd
          rw [n2]
          exact Iff.rfl
        have q0 : M A w (l.length + 1) 0 w.length ↔ ∃ q, M S w (l.length - 1) 0 q ∧ M S w l.length q w.length := by
          rw [M_cat (show (nd A (l.length + 1)).f0 = 4 by unfold nd; rw [n0])]
          unfold nd
          rw [n0]
          show (∃ q, M A w ((l.length : Int) - 1).toNat 0 q ∧ M A w ((l.length : Int)).toNat q w.length) ↔ _
          rw [show ((l.length : Int) - 1).toNat = l.length - 1 by omega, Int.toNat_natCast]
          exact ⟨fun ⟨q, a, b⟩ => ⟨q, (mA (by omega)).1 a, (mA (by omega)).1 b⟩, fun ⟨q, a, b⟩ => ⟨q, (mA (by omega)).2 a, (mA (by omega)).2 b⟩⟩
        have q1 : M A w (l.length + 2) 0 w.length ↔ w.length = 0 := by
          rw [M_empty (show (nd A (l.length + 2)).f0 = 2 by unfold nd; rw [show l.length + 2 = l.length + 1 + 1 from rfl, n1])]
          exact ⟨fun h => h.1, fun h => ⟨h, by omega⟩⟩
        rw [q2, q0, q1]
        constructor
        · intro m
          rcases star_left s6 m with e | ⟨q, a, b⟩
          · exact .inr e
          · rw [s1] at a
            exact .inl ⟨q, a, b⟩
        · rintro (⟨q, a, b⟩ | e)
          · rw [← s1] at a
            exact star_trans s6 b (star_one s6 a)
          · rw [e]; exact .star0 s6 (by omega)
      have e13 : b1 = b3 := by
        rw [Bool.eq_iff_iff, i1, i3]
        have nT := nd_right (l := S) (e := [(⟨6, (l.length : Int), 0⟩ : S25)]) 0
        rw [lenS, Nat.add_zero] at nT
        have lenT : (S ++ [(⟨6, (l.length : Int), 0⟩ : S25)]).length - 1 = l.length + 1 := by rw [List.length_append, lenS]; rfl
        rw [lenT]
        have mT : ∀ {p j : Nat}, (M (S ++ [(⟨6, (l.length : Int), 0⟩ : S25)]) w l.length p j ↔ M S w l.length p j) := M_app okS (by omega)
        generalize S ++ [(⟨6, (l.length : Int), 0⟩ : S25)] = T at *
        have t6 : (nd T (l.length + 1)).f0 = 6 := by rw [nT]; rfl
        have t1 : (nd T (l.length + 1)).f1.toNat = l.length := by rw [nT]; exact Int.toNat_natCast _
        constructor
        · intro m
          exact star_one t6 (by rw [t1]; exact mT.2 m)
        · intro m
          have key : ∀ {i' p j : Nat}, M T w i' p j → i' = l.length + 1 → M S w l.length p j := by
            intro i' p j m
            induction m with
            | empty a _ => rintro rfl; omega
            | sym a _ _ => rintro rfl; omega
            | cat a _ _ => rintro rfl; omega
            | orl a _ => rintro rfl; omega
            | orr a _ => rintro rfl; omega
            | star0 a b => rintro rfl; exact .star0 s6 b
            | star a b c ih1 _ =>
              rintro rfl
              rw [t1] at c
              exact star_trans s6 (mT.1 c) (ih1 rfl)
          exact key m rfl
      have e51 : b5 = true → b1 = true := fun h => i1.2 (star_one s6 (by rw [s1]; exact iE.2 (i5.1 h)))
      have e0 : ¬ (w.length : Int) > 0 → b1 = true := fun h => i1.2 (by
        rw [show w.length = 0 by omega]
        exact .star0 s6 (by omega))
      refine key h1 h2 h3 h4 (Ev.pos hb4 (Ev.neg c (Ev.bind h5 (Ev.pos rfl (Ev.pos rfl (Ev.pos rfl (Ev.pos rfl (Ev.pos ?_ (Ev.pos ?_ ?_)))))))))
      · rw [e12]; exact beq_self_eq_true _
      · rw [e13]; exact beq_self_eq_true _
      · have fin : ∀ {b : Bool}, b = true → Ev (fun q => coppicerkeep_SentenceStar.j1 q b) true := fun h => by
          subst h
          exact Ev.step (fun q => by rw [coppicerkeep_SentenceStar.j1]) (Ev.now _)
        have two : Ev (fun q => if (w.length : Int) > 0 then (coppicerkeep_SentenceStar.j1 q true) else (coppicerkeep_SentenceStar.j1 q b1)) true := by
          by_cases c2 : (w.length : Int) > 0
          · exact Ev.pos c2 (fin rfl)
          · exact Ev.neg c2 (fin (e0 c2))
        by_cases c3 : b5 = true
        · exact Ev.pos c3 (Ev.pos (e51 c3) two)
        · exact Ev.neg c3 two
  · have hb4 : ¬ b4 = true := fun h => g (h4i.1 h)
    have bad : ∀ e : List S25, ¬ (GoodS k ((l ++ [(⟨6, (l.length : Int) - 1, 0⟩ : S25)]) ++ e) ∧ GoodW k w) := fun e h => g ⟨good_pre h.1, h.2⟩
    obtain ⟨e1, e10, h1⟩ := takes_bad (by have := bad []; rwa [List.append_nil] at this)
    obtain ⟨e2, e20, h2⟩ := takes_bad (bad [(⟨4, (l.length : Int) - 1, (l.length : Int)⟩ : S25), (⟨2, 0, 0⟩ : S25), (⟨5, (l.length : Int) + 1, (l.length : Int) + 2⟩ : S25)])
    obtain ⟨e3, e30, h3⟩ := takes_bad (bad [(⟨6, (l.length : Int), 0⟩ : S25)])
    refine key h1 h2 h3 h4 (Ev.neg hb4 (Ev.neg e10 (Ev.neg e20 ?_)))
    refine Ev.step (fun q => by rw [coppicerkeep_SentenceStar.j0]) (Ev.val ?_)
    simpa using e30
end Go.Proofs.Ytkjhddjenkocjaa.Pure
