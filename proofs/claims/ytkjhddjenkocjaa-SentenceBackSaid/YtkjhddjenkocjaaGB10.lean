-- Written by ext.py, a program of this session.
import Derived.Test.YtkjhddjenkocjaaGB0
import Derived.Test.YtkjhddjenkocjaaGB6
import Derived.Test.YtkjhddjenkocjaaGB8
import Derived.Test.YtkjhddjenkocjaaGB9
namespace Go.Proofs.Ytkjhddjenkocjaa.GB
open Go.RowKit Go.Proofs.YtkjhddjenkocjaaW.PrintWords Go.Proofs.YtkjhddjenkocjaaW.PrintLast Go.Proofs.YtkjhddjenkocjaaW.PrintMore
attribute [local go_sem] max2_int min2_int max_two min_two max_three min_three max_four min_four cellIs_set   -- for this text's walks alone
set_option linter.unusedVariables false
set_option linter.unusedSimpArgs false
/-! ### coppicerkeep_SentenceBack: function 4 -/
mutual
def coppicerkeep_SentenceBack.l0 : Nat → Int → List (S25) → List Int → List (S25) → Int → Bool → Int → List Int → Int → Option (Bool)
 | 0,_,_,_,_,_,_,_,_,_=>none
 | k + 1,x0,x1,x2,x7,x8,x9,x10,x11,x12=>if x12 ≥ 0 then (if 0 ≤ x12 then (if x12 < (x2.length : Int) then (if x11.length < 17592186044416 then (coppicerkeep_SentenceBack.l0 k x0 x1 x2 x7 x8 x9 x10 (x11 ++ [rd x2 x12]) (wrap64 (x12 - 1))) else (none)) else (none)) else (none)) else ((sentence_Takes.f k x0 x7 x11).bind fun bt184=>(if x8 = 0 then (if x10 = 0 then (if bt184.2 = 0 then (if (x9 == bt184.1) = true then (coppicerkeep_SentenceBack.j1 k ((x7.length : Int) == (x1.length : Int))) else (coppicerkeep_SentenceBack.j1 k false)) else (coppicerkeep_SentenceBack.j1 k false)) else (coppicerkeep_SentenceBack.j1 k false)) else (coppicerkeep_SentenceBack.j1 k false)))
def coppicerkeep_SentenceBack.j1 : Nat → Bool → Option (Bool)
 | 0,_=>none
 | k + 1,x6=>some x6
end
def coppicerkeep_SentenceBack.f (k : Nat) (a0 : Int) (l1 : List (S25)) (l2 : List Int) : Option (Bool):=(sentence_Back.f k a0 l1).bind fun bt173=>((sentence_Takes.f k a0 l1 l2).bind fun bt177=>((coppicerkeep_said.f k a0 l1 l2).bind fun t179=>(if t179 = true then (coppicerkeep_SentenceBack.l0 k a0 l1 l2 bt173.1 bt173.2 bt177.1 bt177.2 ([] : List Int) (wrap64 ((l2.length : Int) - 1))) else (some (bt177.2 != 0)))))
theorem coppicerkeep_SentenceBack.mono_l : ∀ k,(∀ y0 y1 y2 y3 y4 y5 y6 y7 y8,LeO (coppicerkeep_SentenceBack.l0 k y0 y1 y2 y3 y4 y5 y6 y7 y8) (coppicerkeep_SentenceBack.l0 (k + 1) y0 y1 y2 y3 y4 y5 y6 y7 y8)) ∧ (∀ y0,LeO (coppicerkeep_SentenceBack.j1 k y0) (coppicerkeep_SentenceBack.j1 (k + 1) y0))
 | 0=>⟨fun _ _ _ _ _ _ _ _ _ r h=>by simp [coppicerkeep_SentenceBack.l0] at h,fun _ r h=>by simp [coppicerkeep_SentenceBack.j1] at h⟩
 | k + 1=>by
  obtain ⟨ih0,ih1⟩:=coppicerkeep_SentenceBack.mono_l k
  refine ⟨?_,?_⟩
  ·intro y0 y1 y2 y3 y4 y5 y6 y7 y8
   unfold coppicerkeep_SentenceBack.l0
   repeat' first
   | (with_reducible exact ih0 _ _ _ _ _ _ _ _ _)
   | (with_reducible exact ih1 _)
   | (with_reducible exact coppicerkeep_said.mono _ _ _ _)
   | (with_reducible exact sentence_Back.mono _ _ _)
   | (with_reducible exact sentence_Takes.mono _ _ _ _)
   | (with_reducible exact LeO.refl _)
   | (with_reducible exact LeO.none _)
   | (with_reducible refine LeO.ite ?_ ?_)
   | (with_reducible refine LeO.bind ?_ (fun _=>?_))
   | exact ih0 _ _ _ _ _ _ _ _ _
   | exact ih1 _
   | exact coppicerkeep_said.mono _ _ _ _
   | exact sentence_Back.mono _ _ _
   | exact sentence_Takes.mono _ _ _ _
   | exact LeO.none _
   | refine LeO.ite ?_ ?_
   | refine LeO.bind ?_ (fun _=>?_)
  ·intro y0
   unfold coppicerkeep_SentenceBack.j1
   repeat' first
   | (with_reducible exact ih0 _ _ _ _ _ _ _ _ _)
   | (with_reducible exact ih1 _)
   | (with_reducible exact coppicerkeep_said.mono _ _ _ _)
   | (with_reducible exact sentence_Back.mono _ _ _)
   | (with_reducible exact sentence_Takes.mono _ _ _ _)
   | (with_reducible exact LeO.refl _)
   | (with_reducible exact LeO.none _)
   | (with_reducible refine LeO.ite ?_ ?_)
   | (with_reducible refine LeO.bind ?_ (fun _=>?_))
   | exact ih0 _ _ _ _ _ _ _ _ _
   | exact ih1 _
   | exact coppicerkeep_said.mono _ _ _ _
   | exact sentence_Back.mono _ _ _
   | exact sentence_Takes.mono _ _ _ _
   | exact LeO.none _
   | refine LeO.ite ?_ ?_
   | refine LeO.bind ?_ (fun _=>?_)
theorem coppicerkeep_SentenceBack.mono : ∀ a0 a1 a2 k,LeO (coppicerkeep_SentenceBack.f k a0 a1 a2) (coppicerkeep_SentenceBack.f (k + 1) a0 a1 a2):=by
 intro a0 a1 a2 k
 obtain ⟨ih0,ih1⟩:=coppicerkeep_SentenceBack.mono_l k
 unfold coppicerkeep_SentenceBack.f
 repeat' first
   | (with_reducible exact ih0 _ _ _ _ _ _ _ _ _)
   | (with_reducible exact ih1 _)
   | (with_reducible exact coppicerkeep_said.mono _ _ _ _)
   | (with_reducible exact sentence_Back.mono _ _ _)
   | (with_reducible exact sentence_Takes.mono _ _ _ _)
   | (with_reducible exact LeO.refl _)
   | (with_reducible exact LeO.none _)
   | (with_reducible refine LeO.ite ?_ ?_)
   | (with_reducible refine LeO.bind ?_ (fun _=>?_))
   | exact ih0 _ _ _ _ _ _ _ _ _
   | exact ih1 _
   | exact coppicerkeep_said.mono _ _ _ _
   | exact sentence_Back.mono _ _ _
   | exact sentence_Takes.mono _ _ _ _
   | exact LeO.none _
   | refine LeO.ite ?_ ?_
   | refine LeO.bind ?_ (fun _=>?_)
set_option maxHeartbeats 8000000 in
set_option maxRecDepth 100000 in
theorem coppicerkeep_SentenceBack.calls (k : Nat) (a0 : Int) (A1 : Option Addr) (c1 : Nat) (l1 : List (S25)) (A2 : Option Addr) (c2 : Nat) (l2 : List Int) (r : Bool) (w : World) (hr1 : Kd.C k25 w A1 l1.length l1) (hc1 : l1.length ≤ c1) (hr2 : Kd.C (Kd.int .i64) w A2 l2.length l2) (hc2 : l2.length ≤ c2) (h : coppicerkeep_SentenceBack.f k a0 l1 l2 = some r) :
  Calls Try.prog 4 #[.int .i64 a0,.slice A1 l1.length c1,.slice A2 l2.length c2] w fun e w'=>e = .returned (.bool r) ∧ Below w.heap.size w w':=by
 have HR1:=Aside0.mk hr1
 have HC1:=Aside0.mk hc1
 clear hr1 hc1
 have HR2:=Aside0.mk hr2
 have HC2:=Aside0.mk hc2
 clear hr2 hc2
 have HB:=Aside0.mk (Below.refl w.heap.size w)
 have H : ((sentence_Back.f k a0 l1).bind fun bt173=>((sentence_Takes.f k a0 l1 l2).bind fun bt177=>((coppicerkeep_said.f k a0 l1 l2).bind fun t179=>(if t179 = true then (coppicerkeep_SentenceBack.l0 k a0 l1 l2 bt173.1 bt173.2 bt177.1 bt177.2 ([] : List Int) (wrap64 ((l2.length : Int) - 1))) else (some (bt177.2 != 0)))))) = some r:=h
 clear h
 replace H:=Option.bind_eq_some_iff.mp H
 obtain ⟨⟨t173,t174⟩,A40,H⟩:=H
 replace H : ((sentence_Takes.f k a0 l1 l2).bind fun bt177=>((coppicerkeep_said.f k a0 l1 l2).bind fun t179=>(if t179 = true then (coppicerkeep_SentenceBack.l0 k a0 l1 l2 t173 t174 bt177.1 bt177.2 ([] : List Int) (wrap64 ((l2.length : Int) - 1))) else (some (bt177.2 != 0))))) = some r:=H
 have A4:=Aside0.mk A40
 clear A40
 replace H:=Option.bind_eq_some_iff.mp H
 obtain ⟨⟨t177,t178⟩,A50,H⟩:=H
 replace H : ((coppicerkeep_said.f k a0 l1 l2).bind fun t179=>(if t179 = true then (coppicerkeep_SentenceBack.l0 k a0 l1 l2 t173 t174 t177 t178 ([] : List Int) (wrap64 ((l2.length : Int) - 1))) else (some (t178 != 0)))) = some r:=H
 have A5:=Aside0.mk A50
 clear A50
 replace H:=Option.bind_eq_some_iff.mp H
 obtain ⟨t179,A60,H⟩:=H
 replace H : (if t179 = true then (coppicerkeep_SentenceBack.l0 k a0 l1 l2 t173 t174 t177 t178 ([] : List Int) (wrap64 ((l2.length : Int) - 1))) else (some (t178 != 0))) = some r:=H
 have A6:=Aside0.mk A60
 clear A60
 by_cases c7 : t179 = true
 ·subst c7
  have H1 : (coppicerkeep_SentenceBack.l0 k a0 l1 l2 t173 t174 t177 t178 ([] : List Int) (wrap64 ((l2.length : Int) - 1))) = some r:=by rw [if_pos rfl] at H;exact H
  clear H
  have H:=H1
  clear H1
  have H':=Aside0.mk H
  clear H
  go_enter Try.func4,Try.ntmps4
  go_wp2_with (first|((with_reducible refine gate_callee (f:=17) rfl ?_);refine goesL_ (some 18) rfl rfl Try.func17 (by kernel_rfl) rfl #[.int .i64 a0,.slice A1 l1.length c1] rfl (by (try simp only [List.map_toArray,List.map_cons,List.map_nil]);first|done|rfl|(simp only [List.length_drop,List.length_take];rfl)) ?_;(with_reducible refine (sentence_Back.calls k a0 _ _ l1 t173 t174 _ ?side1 ?side2 A4.out).mono ?_);(case side1=>repeat (first|exact HR1.out|(with_reducible refine Kd.C_alloc ?_ _)|(with_reducible refine Kd.C_drewN ?_ _)|(with_reducible refine Kd.C_drew ?_)));(case side2=>exact HC1.out);rintro e w8 ⟨v175,rfl,ho0,hb⟩;refine ⟨_,rfl,?_⟩;have n0_:=Aside0.mk (Kd.R_lower ho0 (below_size (by repeat (first|(with_reducible first|exact HB.out|apply below_alloc|apply pw_below_drewN|apply below_drew1)|exact HB.out))));have n1_:=Aside0.mk (below_step (by repeat (first|(with_reducible first|exact HB.out|apply below_alloc|apply pw_below_drewN|apply below_drew1)|exact HB.out)) hb);clear HB;have HO176:=n0_;have HB:=n1_;clear n0_ n1_;(try clear hb);(try clear hb2);(try clear hk);(try clear hi);(try clear ho0))|((with_reducible refine gate_callee (f:=15) rfl ?_);refine goesL_ (some 25) rfl rfl Try.func15 (by kernel_rfl) rfl #[.int .i64 a0,.slice A1 l1.length c1,.slice A2 l2.length c2] rfl (by (try simp only [List.map_toArray,List.map_cons,List.map_nil]);first|done|rfl|(simp only [List.length_drop,List.length_take];rfl)) ?_;(with_reducible refine (sentence_Takes.calls k a0 _ _ l1 _ _ l2 t177 t178 _ ?side1 ?side2 ?side3 ?side4 A5.out).mono ?_);(case side1=>repeat (first|exact (Kd.C_below HR1.out HB.out)|(with_reducible refine Kd.C_alloc ?_ _)|(with_reducible refine Kd.C_drewN ?_ _)|(with_reducible refine Kd.C_drew ?_)));(case side2=>exact HC1.out);(case side3=>repeat (first|exact (Kd.C_below HR2.out HB.out)|(with_reducible refine Kd.C_alloc ?_ _)|(with_reducible refine Kd.C_drewN ?_ _)|(with_reducible refine Kd.C_drew ?_)));(case side4=>exact HC2.out);rintro e w9 ⟨rfl,hb⟩;refine ⟨_,rfl,?_⟩;have n0_:=Aside0.mk (Kd.R_below (by (with_reducible repeat (first|apply Kd.R_alloc|apply Kd.R_drewN|apply Kd.R_drew));exact HO176.out) hb);have n1_:=Aside0.mk (below_step (by repeat (first|(with_reducible first|exact HB.out|apply below_alloc|apply pw_below_drewN|apply below_drew1)|exact HB.out)) hb);clear HO176;clear HB;have HO176:=n0_;have HB:=n1_;clear n0_ n1_;(try clear hb);(try clear hb2);(try clear hk);(try clear hi))|((with_reducible refine gate_callee (f:=16) rfl ?_);refine goesL_ (some 31) rfl rfl Try.func16 (by kernel_rfl) rfl #[.int .i64 a0,.slice A1 l1.length c1,.slice A2 l2.length c2] rfl (by (try simp only [List.map_toArray,List.map_cons,List.map_nil]);first|done|rfl|(simp only [List.length_drop,List.length_take];rfl)) ?_;(with_reducible refine (coppicerkeep_said.calls k a0 _ _ l1 _ _ l2 true _ ?side1 ?side2 ?side3 ?side4 A6.out).mono ?_);(case side1=>repeat (first|exact (Kd.C_below HR1.out HB.out)|(with_reducible refine Kd.C_alloc ?_ _)|(with_reducible refine Kd.C_drewN ?_ _)|(with_reducible refine Kd.C_drew ?_)));(case side2=>exact HC1.out);(case side3=>repeat (first|exact (Kd.C_below HR2.out HB.out)|(with_reducible refine Kd.C_alloc ?_ _)|(with_reducible refine Kd.C_drewN ?_ _)|(with_reducible refine Kd.C_drew ?_)));(case side4=>exact HC2.out);rintro e w10 ⟨rfl,hb⟩;refine ⟨_,rfl,?_⟩;have n0_:=Aside0.mk (Kd.R_below (by (with_reducible repeat (first|apply Kd.R_alloc|apply Kd.R_drewN|apply Kd.R_drew));exact HO176.out) hb);have n1_:=Aside0.mk (below_step (by repeat (first|(with_reducible first|exact HB.out|apply below_alloc|apply pw_below_drewN|apply below_drew1)|exact HB.out)) hb);clear HO176;clear HB;have HO176:=n0_;have HB:=n1_;clear n0_ n1_;(try clear hb);(try clear hb2);(try clear hk);(try clear hi)))
  go_loopg [11,12] k (fun kq v11 v12 w'=>∃ (x11_1 : List Int) (x12_1 : Int),v12 = .int .i64 x12_1 ∧ Aside0 (coppicerkeep_SentenceBack.l0 kq a0 l1 l2 t173 t174 t177 t178 x11_1 x12_1 = some r) ∧ Aside0 (kq ≤ k) ∧ Aside0 (Kd.R k25 25 w' w.heap.size (fun _=>True) v175 t173) ∧ Aside0 (Kd.R (Kd.int .i64) 3 w' w.heap.size (fun _=>True) v11 x11_1) ∧ Aside0 (Below w.heap.size w w'))
  case atStart=>exact ⟨(([] : List Int)),(wrap64 ((l2.length : Int) - 1)),(by first|rfl|(simp;done)|(simp [*];done)),H',⟨Nat.le_refl _⟩,⟨by (with_reducible repeat (first|apply Kd.R_alloc|apply Kd.R_drewN|apply Kd.R_drew));exact HO176.out⟩,⟨by first|exact Kd.R_nil _ _ _ _ _|exact Kd.N_nil _ _ _ _ _|exact Kd.V_nil _ _ _ _ _|exact Kd.Q_nil _ _ _ _ _|exact Kd.S_nil _ _ _ _ _⟩,⟨by repeat (first|(with_reducible first|exact HB.out|apply below_alloc|apply pw_below_drewN|apply below_drew1)|exact HB.out)⟩⟩
  case round =>
   clear H'
   try clear c1
   try clear c2
   try clear p2
   try clear c4
   try clear p6
   try clear c7
   obtain ⟨x11_1,x12_1,rfl,HA,HK1,HO_7,HO_11,HB⟩:=hrel
   cases gk with
   | zero=>exact absurd HA.out (by simp [coppicerkeep_SentenceBack.l0])
   | succ k1 =>
    have H:=HA.out
    clear HA
    simp only [coppicerkeep_SentenceBack.l0] at H
    by_cases c11 : x12_1 ≥ 0
    ·rw [if_pos c11] at H
     have c11b0 : decide (0 ≤ x12_1) = true:=decide_eq_true c11
     clear c11
     by_cases c12 : 0 ≤ x12_1
     ·rw [if_pos c12] at H
      have c12b0 : decide (0 ≤ x12_1) = true:=decide_eq_true c12
      clear c12
      by_cases c13 : x12_1 < (l2.length : Int)
      ·rw [if_pos c13] at H
       have c13b0 : decide (x12_1 < (l2.length : Int)) = true:=decide_eq_true c13
       clear c13
       by_cases c14 : x11_1.length < 17592186044416
       ·rw [if_pos c14] at H
        have LMc14:=Aside0.mk c14
        clear c14
        obtain ⟨y181,hy181⟩ : ∃ y_ : List Int,y_ = (x11_1 ++ [rd l2 x12_1]):=⟨_,rfl⟩
        replace H : (coppicerkeep_SentenceBack.l0 k1 a0 l1 l2 t173 t174 t177 t178 y181 (wrap64 (x12_1 - 1))) = some r:=by first|(rw [hy181];with_reducible exact H)|(have H2_:=(Option.bind_some _ _).symm.trans H;rw [hy181];with_reducible exact H2_)|(have H2_:=(Option.bind_some _ _).symm.trans H;with_reducible exact H2_)|with_reducible exact H|(rw [hy181];exact H)|exact H
        have Ny181:=Aside0.mk hy181
        clear hy181
        have H':=Aside0.mk H
        clear H
        have p180 : 0 ≤ (x12_1 : Int):=of_decide_eq_true (by first|(with_reducible assumption)|assumption)
        have q180 : x12_1 < (l2.length : Int):=of_decide_eq_true (by first|(with_reducible assumption)|assumption)
        obtain ⟨ad180,e180,hx180_0⟩:=Kd.at_int HR2.out x12_1 p180 q180
        cases e180
        replace hx180_0:=(HB.out.cell (World.block_lt_of_cell? w _ hx180_0)).trans hx180_0
        replace p180:=eq_true p180
        replace q180:=eq_true q180
        go_wp2_with (first|((with_reducible refine gate_builtin (b:=.append) (xs:=#[.tmp 42,.tmp 47]) rfl ?_);(try (refine gate_guard (by rfl) ?_;dsimp only));at_builtin;refine Kd.R_append (Kd.int .i64) (w0:=w) w.heap.size rfl (.tmp 42) (.tmp 47) 23 3 (.int .i64 0) 8 rfl Try.underlying23 info3 rfl (by decide) (by omega) u11 x11_1 (rd l2 x12_1) [.int .i64 (rd l2 x12_1)] (fun _=>True) (fun _=>False) rfl rfl ?aP (fun _ hk=>hk.elim) ?aF ?aO ?aB ?aS ?aL ?_;(case aP=>exact rfl);(case aB=>exact (by repeat (first|(with_reducible first|exact HB.out|apply below_alloc|apply pw_below_drewN|apply below_drew1)|exact HB.out)));(case aF=>exact (fun _ _=>trivial));(case aO=>exact (by (with_reducible repeat (first|apply Kd.R_alloc|apply Kd.R_drewN|apply Kd.R_drew));exact HO_11.out));(case aS=>exact (below_size (by repeat (first|(with_reducible first|exact HB.out|apply below_alloc|apply pw_below_drewN|apply below_drew1)|exact HB.out))));(case aL=>have:=LMc14.out;omega);intro v182 w15 ho hb hg hat;rw [← Ny181.out] at ho;have n0_:=Aside0.mk (Kd.R_over' (by (with_reducible repeat (first|apply Kd.R_alloc|apply Kd.R_drewN|apply Kd.R_drew));exact HO_7.out) (Kd.R_typed (by (with_reducible repeat (first|apply Kd.R_alloc|apply Kd.R_drewN|apply Kd.R_drew));exact HO_11.out)) (by decide) hg);have n1_:=Aside0.mk (hb);have n2_:=Aside0.mk (ho);clear HO_7;clear HB;clear HO_11;have HO_7:=n0_;have HB:=n1_;have HO183:=n2_;clear n0_ n1_ n2_;clear ho hb hg hat))
        go_roundg k1
        case measure=>have:=HK1.out;omega
        case rel=>exact ⟨(y181),(wrap64 (x12_1 - 1)),(by first|rfl|(simp;done)|(simp [*];done)),H',⟨by have:=HK1.out;omega⟩,⟨by (with_reducible repeat (first|apply Kd.R_alloc|apply Kd.R_drewN|apply Kd.R_drew));exact HO_7.out⟩,⟨by (with_reducible repeat (first|apply Kd.R_alloc|apply Kd.R_drewN|apply Kd.R_drew));exact HO183.out⟩,⟨by repeat (first|(with_reducible first|exact HB.out|apply below_alloc|apply pw_below_drewN|apply below_drew1)|exact HB.out)⟩⟩
       ·rw [if_neg c14] at H
        exact absurd H (by simp)
      ·rw [if_neg c13] at H
       exact absurd H (by simp)
     ·rw [if_neg c12] at H
      exact absurd H (by simp)
    ·rw [if_neg c11] at H
     have c11b0 : decide (0 ≤ x12_1) = false:=decide_eq_false c11
     clear c11
     replace H:=Option.bind_eq_some_iff.mp H
     obtain ⟨⟨t184,t185⟩,A160,H⟩:=H
     replace H : (if t174 = 0 then (if t178 = 0 then (if t185 = 0 then (if (t177 == t184) = true then (coppicerkeep_SentenceBack.j1 k1 ((t173.length : Int) == (l1.length : Int))) else (coppicerkeep_SentenceBack.j1 k1 false)) else (coppicerkeep_SentenceBack.j1 k1 false)) else (coppicerkeep_SentenceBack.j1 k1 false)) else (coppicerkeep_SentenceBack.j1 k1 false)) = some r:=H
     have A16:=Aside0.mk A160
     clear A160
     have HC17:=Aside0.mk H
     clear H
     obtain ⟨Ao18,co18,eo18⟩:=Kd.R_slice HO_7.out
     subst eo18
     obtain ⟨Ao19,co19,eo19⟩:=Kd.R_slice HO_11.out
     subst eo19
     go_upto_region 11 with (first|((with_reducible refine gate_callee (f:=15) rfl ?_);refine goesL_ (some 53) rfl rfl Try.func15 (by kernel_rfl) rfl #[.int .i64 a0,.slice Ao18 t173.length co18,.slice Ao19 x11_1.length co19] rfl (by (try simp only [List.map_toArray,List.map_cons,List.map_nil]);first|done|rfl|(simp only [List.length_drop,List.length_take];rfl)) ?_;(with_reducible refine (sentence_Takes.calls k1 a0 _ _ t173 _ _ x11_1 t184 t185 _ ?side1 ?side2 ?side3 ?side4 A16.out).mono ?_);(case side1=>repeat (first|exact (Kd.R_reads' HO_7.out).2.2|(with_reducible refine Kd.C_alloc ?_ _)|(with_reducible refine Kd.C_drewN ?_ _)|(with_reducible refine Kd.C_drew ?_)));(case side2=>exact (Kd.R_reads' HO_7.out).2.1);(case side3=>repeat (first|exact (Kd.R_reads' HO_11.out).2.2|(with_reducible refine Kd.C_alloc ?_ _)|(with_reducible refine Kd.C_drewN ?_ _)|(with_reducible refine Kd.C_drew ?_)));(case side4=>exact (Kd.R_reads' HO_11.out).2.1);rintro e w20 ⟨rfl,hb⟩;refine ⟨_,rfl,?_⟩;have n0_:=Aside0.mk (Kd.R_below (by (with_reducible repeat (first|apply Kd.R_alloc|apply Kd.R_drewN|apply Kd.R_drew));exact HO_7.out) hb);have n1_:=Aside0.mk (Kd.R_below (by (with_reducible repeat (first|apply Kd.R_alloc|apply Kd.R_drewN|apply Kd.R_drew));exact HO_11.out) hb);have n2_:=Aside0.mk (below_step (by repeat (first|(with_reducible first|exact HB.out|apply below_alloc|apply pw_below_drewN|apply below_drew1)|exact HB.out)) hb);clear HO_7;clear HO_11;clear HB;have HO_7:=n0_;have HO_11:=n1_;have HB:=n2_;clear n0_ n1_ n2_;(try clear hb);(try clear hb2);(try clear hk);(try clear hi)))
     (try simp only [Act.put,List.setIfInBounds_toArray,List.set_cons_zero,List.set_cons_succ])
     go_cut [6] (fun v6 wc=>∃ (kq : Nat) (x6_16 : Bool),v6 = .bool x6_16 ∧ Aside0 (coppicerkeep_SentenceBack.j1 kq x6_16 = some r) ∧ Aside0 (kq ≤ k1) ∧ Aside0 (Below w.heap.size w wc))
     case first =>
      have H:=HC17.out
      clear HC17
      by_cases c21 : t174 = 0
      ·rw [if_pos c21] at H
       have c21b0 : (t174 == 0) = true:=beq_iff_eq.mpr c21
       have c21b1 : (t174 != 0) = false:=bne_eq_false_iff_eq.mpr c21
       clear c21
       (first|rw [c21b0]|(simp only [i64_w,i32_w];rw [c21b0])|skip)
       by_cases c22 : t178 = 0
       ·rw [if_pos c22] at H
        have c22b0 : (t178 == 0) = true:=beq_iff_eq.mpr c22
        have c22b1 : (t178 != 0) = false:=bne_eq_false_iff_eq.mpr c22
        clear c22
        by_cases c23 : t185 = 0
        ·rw [if_pos c23] at H
         have c23b0 : (t185 == 0) = true:=beq_iff_eq.mpr c23
         have c23b1 : (t185 != 0) = false:=bne_eq_false_iff_eq.mpr c23
         clear c23
         by_cases c24 : (t177 == t184) = true
         ·rw [if_pos c24] at H
          have c24b0 : (t177 == t184) = true:=c24
          (try (have c24b1 : decide (t177 = t184) = true:=by simpa using c24))
          (try (have c24b2 : (t177 == t184) = true:=by simpa using c24))
          clear c24
          have H':=Aside0.mk H
          clear H
          go_wp2
          go_meet
          case rel=>exact ⟨_,(((t173.length : Int) == (l1.length : Int))),(by first|rfl|(simp;done)|(simp [*];done)),H',⟨by have:=HK1.out;first|omega|exact Nat.le_refl _⟩,⟨by repeat (first|(with_reducible first|exact HB.out|apply below_alloc|apply pw_below_drewN|apply below_drew1)|exact HB.out)⟩⟩
         ·rw [if_neg c24] at H
          have c24b0 : (t177 == t184) = false:=by simpa using c24
          (try (have c24b1 : decide (t177 = t184) = false:=by simpa using c24))
          (try (have c24b2 : (t177 == t184) = false:=by simpa using c24))
          (try (have c24b3 : ¬ (t177 = t184):=by simpa using c24))
          clear c24
          have H':=Aside0.mk H
          clear H
          go_wp2
          go_meet
          case rel=>exact ⟨_,(false),(by first|rfl|(simp;done)|(simp [*];done)),H',⟨by have:=HK1.out;first|omega|exact Nat.le_refl _⟩,⟨by repeat (first|(with_reducible first|exact HB.out|apply below_alloc|apply pw_below_drewN|apply below_drew1)|exact HB.out)⟩⟩
        ·rw [if_neg c23] at H
         have c23b0 : (t185 == 0) = false:=beq_eq_false_iff_ne.mpr c23
         have c23b1 : (t185 != 0) = true:=bne_iff_ne.mpr c23
         have H':=Aside0.mk H
         clear H
         go_wp2
         go_meet
         case rel=>exact ⟨_,(false),(by first|rfl|(simp;done)|(simp [*];done)),H',⟨by have:=HK1.out;first|omega|exact Nat.le_refl _⟩,⟨by repeat (first|(with_reducible first|exact HB.out|apply below_alloc|apply pw_below_drewN|apply below_drew1)|exact HB.out)⟩⟩
       ·rw [if_neg c22] at H
        have c22b0 : (t178 == 0) = false:=beq_eq_false_iff_ne.mpr c22
        have c22b1 : (t178 != 0) = true:=bne_iff_ne.mpr c22
        have H':=Aside0.mk H
        clear H
        go_wp2
        go_meet
        case rel=>exact ⟨_,(false),(by first|rfl|(simp;done)|(simp [*];done)),H',⟨by have:=HK1.out;first|omega|exact Nat.le_refl _⟩,⟨by repeat (first|(with_reducible first|exact HB.out|apply below_alloc|apply pw_below_drewN|apply below_drew1)|exact HB.out)⟩⟩
      ·rw [if_neg c21] at H
       have c21b0 : (t174 == 0) = false:=beq_eq_false_iff_ne.mpr c21
       have c21b1 : (t174 != 0) = true:=bne_iff_ne.mpr c21
       (first|rw [c21b0]|(simp only [i64_w,i32_w];rw [c21b0])|skip)
       have H':=Aside0.mk H
       clear H
       go_wp2
       go_meet
       case rel=>exact ⟨_,(false),(by first|rfl|(simp;done)|(simp [*];done)),H',⟨by have:=HK1.out;first|omega|exact Nat.le_refl _⟩,⟨by repeat (first|(with_reducible first|exact HB.out|apply below_alloc|apply pw_below_drewN|apply below_drew1)|exact HB.out)⟩⟩
     case rest =>
      clear HC17
      try clear c1
      try clear p1
      try clear q1
      try clear hx1
      try clear c2
      try clear p2
      try clear c4
      try clear p6
      try clear c7
      try clear c11
      try clear c11b0
      try clear c12
      try clear c12b0
      try clear c13
      try clear c13b0
      try clear c14
      try clear c15
      try clear c16
      try clear c17
      try clear p18
      try clear q18
      try clear hx18
      try clear c21
      try clear c21b0
      try clear c21b1
      try clear c22
      try clear c22b0
      try clear c22b1
      try clear c23
      try clear c23b0
      try clear c23b1
      try clear c24
      try clear c24b0
      try clear c24b1
      try clear c24b2
      try clear hx180_0
      try clear p180
      try clear p2
      try clear p6
      try clear q180
      obtain ⟨kq,x6_16,rfl,HA,HJ16,HB⟩:=hcut
      cases kq with
      | zero=>exact absurd HA.out (by simp [coppicerkeep_SentenceBack.j1])
      | succ kj16 =>
       have H:=HA.out
       clear HA
       simp only [coppicerkeep_SentenceBack.j1] at H
       obtain rfl:=Option.some.inj H
       go_wp2
       go_ret
       exact ⟨by first|rfl|(simp [errW_none,errW_some] <;> rfl)|(simp [*,errW_none,errW_some] <;> rfl),by repeat (first|(with_reducible first|exact HB.out|apply below_alloc|apply pw_below_drewN|apply below_drew1)|exact HB.out)⟩
 ·replace c7:=Bool.eq_false_iff.mpr c7
  subst c7
  have H1 : (some (t178 != 0)) = some r:=by rw [if_neg (show ¬ (false = true) by decide)] at H;exact H
  clear H
  have H:=H1
  clear H1
  obtain rfl:=Option.some.inj H
  go_enter Try.func4,Try.ntmps4
  go_wp2_with (first|((with_reducible refine gate_callee (f:=17) rfl ?_);refine goesL_ (some 18) rfl rfl Try.func17 (by kernel_rfl) rfl #[.int .i64 a0,.slice A1 l1.length c1] rfl (by (try simp only [List.map_toArray,List.map_cons,List.map_nil]);first|done|rfl|(simp only [List.length_drop,List.length_take];rfl)) ?_;(with_reducible refine (sentence_Back.calls k a0 _ _ l1 t173 t174 _ ?side1 ?side2 A4.out).mono ?_);(case side1=>repeat (first|exact HR1.out|(with_reducible refine Kd.C_alloc ?_ _)|(with_reducible refine Kd.C_drewN ?_ _)|(with_reducible refine Kd.C_drew ?_)));(case side2=>exact HC1.out);rintro e w25 ⟨v175,rfl,ho0,hb⟩;refine ⟨_,rfl,?_⟩;have n0_:=Aside0.mk (Kd.R_lower ho0 (below_size (by repeat (first|(with_reducible first|exact HB.out|apply below_alloc|apply pw_below_drewN|apply below_drew1)|exact HB.out))));have n1_:=Aside0.mk (below_step (by repeat (first|(with_reducible first|exact HB.out|apply below_alloc|apply pw_below_drewN|apply below_drew1)|exact HB.out)) hb);clear HB;have HO176:=n0_;have HB:=n1_;clear n0_ n1_;(try clear hb);(try clear hb2);(try clear hk);(try clear hi);(try clear ho0))|((with_reducible refine gate_callee (f:=15) rfl ?_);refine goesL_ (some 25) rfl rfl Try.func15 (by kernel_rfl) rfl #[.int .i64 a0,.slice A1 l1.length c1,.slice A2 l2.length c2] rfl (by (try simp only [List.map_toArray,List.map_cons,List.map_nil]);first|done|rfl|(simp only [List.length_drop,List.length_take];rfl)) ?_;(with_reducible refine (sentence_Takes.calls k a0 _ _ l1 _ _ l2 t177 t178 _ ?side1 ?side2 ?side3 ?side4 A5.out).mono ?_);(case side1=>repeat (first|exact (Kd.C_below HR1.out HB.out)|(with_reducible refine Kd.C_alloc ?_ _)|(with_reducible refine Kd.C_drewN ?_ _)|(with_reducible refine Kd.C_drew ?_)));(case side2=>exact HC1.out);(case side3=>repeat (first|exact (Kd.C_below HR2.out HB.out)|(with_reducible refine Kd.C_alloc ?_ _)|(with_reducible refine Kd.C_drewN ?_ _)|(with_reducible refine Kd.C_drew ?_)));(case side4=>exact HC2.out);rintro e w26 ⟨rfl,hb⟩;refine ⟨_,rfl,?_⟩;have n0_:=Aside0.mk (Kd.R_below (by (with_reducible repeat (first|apply Kd.R_alloc|apply Kd.R_drewN|apply Kd.R_drew));exact HO176.out) hb);have n1_:=Aside0.mk (below_step (by repeat (first|(with_reducible first|exact HB.out|apply below_alloc|apply pw_below_drewN|apply below_drew1)|exact HB.out)) hb);clear HO176;clear HB;have HO176:=n0_;have HB:=n1_;clear n0_ n1_;(try clear hb);(try clear hb2);(try clear hk);(try clear hi))|((with_reducible refine gate_callee (f:=16) rfl ?_);refine goesL_ (some 31) rfl rfl Try.func16 (by kernel_rfl) rfl #[.int .i64 a0,.slice A1 l1.length c1,.slice A2 l2.length c2] rfl (by (try simp only [List.map_toArray,List.map_cons,List.map_nil]);first|done|rfl|(simp only [List.length_drop,List.length_take];rfl)) ?_;(with_reducible refine (coppicerkeep_said.calls k a0 _ _ l1 _ _ l2 false _ ?side1 ?side2 ?side3 ?side4 A6.out).mono ?_);(case side1=>repeat (first|exact (Kd.C_below HR1.out HB.out)|(with_reducible refine Kd.C_alloc ?_ _)|(with_reducible refine Kd.C_drewN ?_ _)|(with_reducible refine Kd.C_drew ?_)));(case side2=>exact HC1.out);(case side3=>repeat (first|exact (Kd.C_below HR2.out HB.out)|(with_reducible refine Kd.C_alloc ?_ _)|(with_reducible refine Kd.C_drewN ?_ _)|(with_reducible refine Kd.C_drew ?_)));(case side4=>exact HC2.out);rintro e w27 ⟨rfl,hb⟩;refine ⟨_,rfl,?_⟩;have n0_:=Aside0.mk (Kd.R_below (by (with_reducible repeat (first|apply Kd.R_alloc|apply Kd.R_drewN|apply Kd.R_drew));exact HO176.out) hb);have n1_:=Aside0.mk (below_step (by repeat (first|(with_reducible first|exact HB.out|apply below_alloc|apply pw_below_drewN|apply below_drew1)|exact HB.out)) hb);clear HO176;clear HB;have HO176:=n0_;have HB:=n1_;clear n0_ n1_;(try clear hb);(try clear hb2);(try clear hk);(try clear hi)))
  go_ret
  exact ⟨by first|rfl|(simp [errW_none,errW_some] <;> rfl)|(simp [*,errW_none,errW_some] <;> rfl),by repeat (first|(with_reducible first|exact HB.out|apply below_alloc|apply pw_below_drewN|apply below_drew1)|exact HB.out)⟩
/-- THE ONE PURE STATEMENT of coppicerkeep_SentenceBack: yours. -/
def coppicerkeep_SentenceBack.Pure : Prop:=∀ (a0 : Int) (l1 : List (S25)) (l2 : List Int),((Lit.int .i64 a0).wf = true) → (l1.length ≤ 9223372036854775807 ∧ l1.length * 24 ≤ 140737488351232 ∧ ∀ y_ ∈ l1,wf25 y_) → (l2.length ≤ 9223372036854775807 ∧ l2.length * 8 ≤ 140737488351232 ∧ ∀ y_ ∈ l2,(Lit.int .i64 y_).wf = true) → ∃ k,coppicerkeep_SentenceBack.f k a0 l1 l2 = some true
theorem coppicerkeep_SentenceBack.walk (P : coppicerkeep_SentenceBack.Pure) (a0 : Int) (A1 : Option Addr) (l1 : List (S25)) (c1 : Nat) (A2 : Option Addr) (l2 : List Int) (c2 : Nat) (w : World) (w0 : (Lit.int .i64 a0).wf = true) (hr1 : Kd.C k25 w A1 l1.length l1) (hc1 : l1.length ≤ c1) (w1 : l1.length ≤ 9223372036854775807 ∧ l1.length * 24 ≤ 140737488351232 ∧ ∀ y_ ∈ l1,wf25 y_) (hr2 : Kd.C (Kd.int .i64) w A2 l2.length l2) (hc2 : l2.length ≤ c2) (w2 : l2.length ≤ 9223372036854775807 ∧ l2.length * 8 ≤ 140737488351232 ∧ ∀ y_ ∈ l2,(Lit.int .i64 y_).wf = true) :
  Calls Try.prog 4 #[.int .i64 a0,.slice A1 l1.length c1,.slice A2 l2.length c2] w fun e w'=>e = .returned (.bool true) ∧ Below w.heap.size w w':=by
 obtain ⟨k,h⟩:=P a0 l1 l2 w0 w1 w2
 refine (coppicerkeep_SentenceBack.calls k _ _ _ _ _ _ _ true w hr1 hc1 hr2 hc2 h).mono ?_
 rintro e w' ⟨rfl,hd⟩
 exact ⟨rfl,hd⟩
end Go.Proofs.Ytkjhddjenkocjaa.GB
