-- Written by ext.py, a program of this session.
import Derived.Test.YtlkeemcapemkiaaGA4E
namespace Go.Proofs.Ytlkeemcapemkiaa.GA
open Go.RowKit Go.Proofs.YtlkeemcapemkiaaW.PrintWords Go.Proofs.YtlkeemcapemkiaaW.PrintLast Go.Proofs.YtlkeemcapemkiaaW.PrintMore
attribute [local go_sem] max2_int min2_int max_two min_two max_three min_three max_four min_four cellIs_set   -- for this text's walks alone
set_option linter.unusedVariables false
set_option linter.unusedSimpArgs false
set_option maxHeartbeats 8000000 in
set_option maxRecDepth 100000 in
theorem turner_Then.calls (k : Nat) (a0_0 : Int) (a0_1 : Int) (a0_2 : Int) (A0_3 : Option Addr) (c0_3 : Nat) (l0_3 : List (List Int)) (A0_4 : Option Addr) (c0_4 : Nat) (l0_4 : List (List (List Int))) (a0_5 : Int) (a1_0 : Int) (a1_1 : Int) (a1_2 : Int) (A1_3 : Option Addr) (c1_3 : Nat) (l1_3 : List (List Int)) (A1_4 : Option Addr) (c1_4 : Nat) (l1_4 : List (List (List Int))) (a1_5 : Int) (r1 : Int) (r2 : Int) (r3 : Int) (r4 : List (List Int)) (r5 : List (List (List Int))) (r6 : Int) (r7 : Int) (w : World) (hr0_3 : Kd.C (Kd.slice 3 (Kd.int .i64)) w A0_3 l0_3.length l0_3) (hc0_3 : l0_3.length ≤ c0_3) (hr0_4 : Kd.C (Kd.slice 26 (Kd.slice 3 (Kd.int .i64))) w A0_4 l0_4.length l0_4) (hc0_4 : l0_4.length ≤ c0_4) (hr1_3 : Kd.C (Kd.slice 3 (Kd.int .i64)) w A1_3 l1_3.length l1_3) (hc1_3 : l1_3.length ≤ c1_3) (hr1_4 : Kd.C (Kd.slice 26 (Kd.slice 3 (Kd.int .i64))) w A1_4 l1_4.length l1_4) (hc1_4 : l1_4.length ≤ c1_4) (h : turner_Then.f k a0_0 a0_1 a0_2 l0_3 l0_4 a0_5 a1_0 a1_1 a1_2 l1_3 l1_4 a1_5 = some (r1,r2,r3,r4,r5,r6,r7)) :
  Calls Try.prog 4 #[.agg #[.int .i64 a0_0,.int .i64 a0_1,.int .i64 a0_2,.slice A0_3 l0_3.length c0_3,.slice A0_4 l0_4.length c0_4,.int .i64 a0_5],.agg #[.int .i64 a1_0,.int .i64 a1_1,.int .i64 a1_2,.slice A1_3 l1_3.length c1_3,.slice A1_4 l1_4.length c1_4,.int .i64 a1_5]] w fun e w'=>∃ v3_ v4_ : Value,e = .returned (.tuple #[.agg #[.int .i64 r1,.int .i64 r2,.int .i64 r3,v3_,v4_,.int .i64 r6],.int .i64 r7]) ∧ Kd.N (Kd.slice 3 (Kd.int .i64)) 26 w' w.heap.size (fun k_=>(w.heap.size ≤ k_) ∧ some k_ ≠ (v4_ : Value).ownBlock) v3_ r4 ∧ Kd.N (Kd.slice 26 (Kd.slice 3 (Kd.int .i64))) 22 w' w.heap.size (fun k_=>(w.heap.size ≤ k_) ∧ some k_ ≠ (v3_ : Value).ownBlock) v4_ r5 ∧ Below w.heap.size w w':=by
 by_cases hx : (turner_Check.f k a0_0 a0_1 a0_2 l0_3 l0_4 a0_5 = some 0 ∧ turner_Check.f k a1_0 a1_1 a1_2 l1_3 l1_4 a1_5 = some 0 ∧ a0_2 = a1_1 ∧ ¬ (wrap64 (a0_0 * a1_0)) > 7)
 case neg=>exact turner_Then.callsE k a0_0 a0_1 a0_2 A0_3 c0_3 l0_3 A0_4 c0_4 l0_4 a0_5 a1_0 a1_1 a1_2 A1_3 c1_3 l1_3 A1_4 c1_4 l1_4 a1_5 r1 r2 r3 r4 r5 r6 r7 w hr0_3 hc0_3 hr0_4 hc0_4 hr1_3 hc1_3 hr1_4 hc1_4 h hx
 have HX:=Aside0.mk hx
 clear hx
 have hu25:=Try.underlying25
 have HR0_3:=Aside0.mk hr0_3
 have HC0_3:=Aside0.mk hc0_3
 clear hr0_3 hc0_3
 have HR0_4:=Aside0.mk hr0_4
 have HC0_4:=Aside0.mk hc0_4
 clear hr0_4 hc0_4
 have HR1_3:=Aside0.mk hr1_3
 have HC1_3:=Aside0.mk hc1_3
 clear hr1_3 hc1_3
 have HR1_4:=Aside0.mk hr1_4
 have HC1_4:=Aside0.mk hc1_4
 clear hr1_4 hc1_4
 have HB:=Aside0.mk (Below.refl w.heap.size w)
 have H : ((turner_Check.f k a0_0 a0_1 a0_2 l0_3 l0_4 a0_5).bind fun t134=>(if t134 = 0 then ((turner_Check.f k a1_0 a1_1 a1_2 l1_3 l1_4 a1_5).bind fun t135=>(if t135 = 0 then (if a0_2 = a1_1 then (if (wrap64 (a0_0 * a1_0)) > 7 then (some (0,0,0,([] : List (List Int)),([] : List (List (List Int))),0,1)) else (turner_Then.l0 k a0_0 0 a0_0 a0_1 a0_2 l0_3 l0_4 a0_5 a1_0 a1_1 a1_2 l1_3 l1_4 a1_5 (wrap64 (a0_0 * a1_0)) a0_1 a1_2 ([] : List (List Int)) ([] : List (List (List Int))) (wrap64 ((wrap64 (a0_5 * a1_0)) + a1_5)))) else (some (0,0,0,([] : List (List Int)),([] : List (List (List Int))),0,3))) else (some (0,0,0,([] : List (List Int)),([] : List (List (List Int))),0,t135)))) else (some (0,0,0,([] : List (List Int)),([] : List (List (List Int))),0,t134)))) = some (r1,r2,r3,r4,r5,r6,r7):=h
 clear h
 replace H:=Option.bind_eq_some_iff.mp H
 obtain ⟨t134,A30,H⟩:=H
 replace H : (if t134 = 0 then ((turner_Check.f k a1_0 a1_1 a1_2 l1_3 l1_4 a1_5).bind fun t135=>(if t135 = 0 then (if a0_2 = a1_1 then (if (wrap64 (a0_0 * a1_0)) > 7 then (some (0,0,0,([] : List (List Int)),([] : List (List (List Int))),0,1)) else (turner_Then.l0 k a0_0 0 a0_0 a0_1 a0_2 l0_3 l0_4 a0_5 a1_0 a1_1 a1_2 l1_3 l1_4 a1_5 (wrap64 (a0_0 * a1_0)) a0_1 a1_2 ([] : List (List Int)) ([] : List (List (List Int))) (wrap64 ((wrap64 (a0_5 * a1_0)) + a1_5)))) else (some (0,0,0,([] : List (List Int)),([] : List (List (List Int))),0,3))) else (some (0,0,0,([] : List (List Int)),([] : List (List (List Int))),0,t135)))) else (some (0,0,0,([] : List (List Int)),([] : List (List (List Int))),0,t134))) = some (r1,r2,r3,r4,r5,r6,r7):=H
 have A3:=Aside0.mk A30
 clear A30
 by_cases c4 : t134 = 0
 ·rw [if_pos c4] at H
  have c4b0 : (t134 == 0) = true:=beq_iff_eq.mpr c4
  have c4b1 : (t134 != 0) = false:=bne_eq_false_iff_eq.mpr c4
  clear c4
  replace H:=Option.bind_eq_some_iff.mp H
  obtain ⟨t135,A50,H⟩:=H
  replace H : (if t135 = 0 then (if a0_2 = a1_1 then (if (wrap64 (a0_0 * a1_0)) > 7 then (some (0,0,0,([] : List (List Int)),([] : List (List (List Int))),0,1)) else (turner_Then.l0 k a0_0 0 a0_0 a0_1 a0_2 l0_3 l0_4 a0_5 a1_0 a1_1 a1_2 l1_3 l1_4 a1_5 (wrap64 (a0_0 * a1_0)) a0_1 a1_2 ([] : List (List Int)) ([] : List (List (List Int))) (wrap64 ((wrap64 (a0_5 * a1_0)) + a1_5)))) else (some (0,0,0,([] : List (List Int)),([] : List (List (List Int))),0,3))) else (some (0,0,0,([] : List (List Int)),([] : List (List (List Int))),0,t135))) = some (r1,r2,r3,r4,r5,r6,r7):=H
  have A5:=Aside0.mk A50
  clear A50
  by_cases c6 : t135 = 0
  ·rw [if_pos c6] at H
   have c6b0 : (t135 == 0) = true:=beq_iff_eq.mpr c6
   have c6b1 : (t135 != 0) = false:=bne_eq_false_iff_eq.mpr c6
   clear c6
   by_cases c7 : a0_2 = a1_1
   ·rw [if_pos c7] at H
    have c7b0 : (a0_2 == a1_1) = true:=beq_iff_eq.mpr c7
    have c7b1 : (a0_2 != a1_1) = false:=bne_eq_false_iff_eq.mpr c7
    clear c7
    by_cases c8 : (wrap64 (a0_0 * a1_0)) > 7
    ·exact absurd c8 HX.out.2.2.2
    ·rw [if_neg c8] at H
     have c8b0 : decide (7 < (wrap64 (a0_0 * a1_0))) = false:=decide_eq_false c8
     clear c8
     have H':=Aside0.mk H
     clear H
     go_enter Try.func4,Try.ntmps4
     go_wp2_with (first|((with_reducible refine gate_dst (N:=2) rfl ?_);refine box_event ?hg (N:=2) ?hd (cs:=#[.int .i64 a0_0,.int .i64 a0_1,.int .i64 a0_2,.slice A0_3 l0_3.length c0_3,.slice A0_4 l0_4.length c0_4,.int .i64 a0_5]) (t:=25) ?hr ?_;(case hd=>rfl);(case hg=>rfl);(case hr=>first|(go_simp;done)|(go_simp;rfl));intro Ac hg w22 hbox hb;have n0_:=Aside0.mk (below_step qB3 hb);have n1_:=Aside0.mk (hbox);have n2_:=Aside0.mk ((by rw [hg];exact (below_size qB3) : w.heap.size ≤ Ac));have n3_:=Aside0.mk ((by rw [hg];exact (below_size qB3) : w.heap.size ≤ Ac));clear HB;have HB:=n0_;have Aa:=n1_;have GW131:=n2_;have Bs:=n3_;clear n0_ n1_ n2_ n3_;clear hb hbox hg)|((with_reducible refine gate_dst (N:=3) rfl ?_);refine box_event ?hg (N:=3) ?hd (cs:=#[.int .i64 a1_0,.int .i64 a1_1,.int .i64 a1_2,.slice A1_3 l1_3.length c1_3,.slice A1_4 l1_4.length c1_4,.int .i64 a1_5]) (t:=25) ?hr ?_;(case hd=>rfl);(case hg=>rfl);(case hr=>first|(go_simp;done)|(go_simp;rfl));intro Ae hg w23 hbox hb;have n0_:=Aside0.mk (blk_below (qD Aa.out) hb);have n1_:=Aside0.mk (below_step qB4 hb);have n2_:=Aside0.mk (hbox);have n3_:=Aside0.mk ((by rw [hg];exact (below_size qB4) : w.heap.size ≤ Ae));have n4_:=Aside0.mk ((by rw [hg];exact (below_size qB4) : w.heap.size ≤ Ae));have n5_:=Aside0.mk ((by rw [hg];exact Nat.ne_of_lt (blk_lt (qD Aa.out)) : Ac ≠ Ae));have n6_:=Aside0.mk ((by rw [hg];exact Nat.ne_of_gt (blk_lt (qD Aa.out)) : Ae ≠ Ac));clear Aa;clear HB;have Aa:=n0_;have HB:=n1_;have Ab:=n2_;have GW132:=n3_;have Bt:=n4_;have Bf:=n5_;have Bg:=n6_;clear n0_ n1_ n2_ n3_ n4_ n5_ n6_;clear hb hbox hg)|((with_reducible refine gate_dst (N:=4) rfl ?_);refine box_event ?hg (N:=4) ?hd (cs:=#[.int .i64 0,.int .i64 0,.int .i64 0,.slice none 0 0,.slice none 0 0,.int .i64 0]) (t:=25) ?hr ?_;(case hd=>rfl);(case hg=>rfl);(case hr=>first|(go_simp;done)|(go_simp;rfl));intro Ag hg w24 hbox hb;have n0_:=Aside0.mk (blk_below (qD Aa.out) hb);have n1_:=Aside0.mk (blk_below (qD Ab.out) hb);have n2_:=Aside0.mk (below_step qB5 hb);have n3_:=Aside0.mk (hbox);have n4_:=Aside0.mk ((by rw [hg];exact (below_size qB5) : w.heap.size ≤ Ag));have n5_:=Aside0.mk ((by rw [hg];exact (below_size qB5) : w.heap.size ≤ Ag));have n6_:=Aside0.mk ((by rw [hg];exact Nat.ne_of_lt (blk_lt (qD Aa.out)) : Ac ≠ Ag));have n7_:=Aside0.mk ((by rw [hg];exact Nat.ne_of_gt (blk_lt (qD Aa.out)) : Ag ≠ Ac));have n8_:=Aside0.mk ((by rw [hg];exact Nat.ne_of_lt (blk_lt (qD Ab.out)) : Ae ≠ Ag));have n9_:=Aside0.mk ((by rw [hg];exact Nat.ne_of_gt (blk_lt (qD Ab.out)) : Ag ≠ Ae));clear Aa;clear Ab;clear HB;have Aa:=n0_;have Ab:=n1_;have HB:=n2_;have Ai:=n3_;have GW133:=n4_;have Bu:=n5_;have Ba:=n6_;have Bb:=n7_;have Bc:=n8_;have Bd:=n9_;clear n0_ n1_ n2_ n3_ n4_ n5_ n6_ n7_ n8_ n9_;clear hb hbox hg;have hnb25:=Bf.out;have hnc25:=Bg.out;have hnb26:=Ba.out;have hnc26:=Bb.out;have hcz27_0 : w24.cell? ⟨Ac,0,none⟩ = some (.int .i64 a0_0):=(blk_cell Aa.out 0).trans rfl;have hcz27_1 : w24.cell? ⟨Ac,1,none⟩ = some (.int .i64 a0_1):=(blk_cell Aa.out 1).trans rfl;have hcz27_2 : w24.cell? ⟨Ac,2,none⟩ = some (.int .i64 a0_2):=(blk_cell Aa.out 2).trans rfl;have hcz27_3 : w24.cell? ⟨Ac,3,none⟩ = some (.slice A0_3 l0_3.length c0_3):=(blk_cell Aa.out 3).trans rfl;have hcz27_4 : w24.cell? ⟨Ac,4,none⟩ = some (.slice A0_4 l0_4.length c0_4):=(blk_cell Aa.out 4).trans rfl;have hcz27_5 : w24.cell? ⟨Ac,5,none⟩ = some (.int .i64 a0_5):=(blk_cell Aa.out 5).trans rfl;have hfz27_0:=blk_frozen Aa.out 0;have hfz27_1:=blk_frozen Aa.out 1;have hfz27_2:=blk_frozen Aa.out 2;have hfz27_3:=blk_frozen Aa.out 3;have hfz27_4:=blk_frozen Aa.out 4;have hfz27_5:=blk_frozen Aa.out 5)|((with_reducible refine gate_callee (f:=9) rfl ?_);refine goesL_ (some 17) rfl rfl Try.func9 (by kernel_rfl) rfl #[.agg #[.int .i64 a0_0,.int .i64 a0_1,.int .i64 a0_2,.slice A0_3 l0_3.length c0_3,.slice A0_4 l0_4.length c0_4,.int .i64 a0_5]] rfl qA8 ?_;(with_reducible refine (turner_Check.calls k a0_0 a0_1 a0_2 _ _ l0_3 _ _ l0_4 a0_5 t134 _ ?side1 ?side2 ?side3 ?side4 A3.out).mono ?_);(case side1=>repeat (first|exact (Kd.C_below HR0_3.out HB.out)|(with_reducible refine Kd.C_alloc ?_ _)|(with_reducible refine Kd.C_drewN ?_ _)|(with_reducible refine Kd.C_drew ?_)));(case side2=>exact HC0_3.out);(case side3=>repeat (first|exact (Kd.C_below HR0_4.out HB.out)|(with_reducible refine Kd.C_alloc ?_ _)|(with_reducible refine Kd.C_drewN ?_ _)|(with_reducible refine Kd.C_drew ?_)));(case side4=>exact HC0_4.out);rintro e w28 ⟨rfl,hb⟩;refine ⟨_,rfl,?_⟩;have n0_:=Aside0.mk (blk_below (qD Aa.out) hb);have n1_:=Aside0.mk (blk_below (qD Ab.out) hb);have n2_:=Aside0.mk (blk_below (qD Ai.out) hb);have n3_:=Aside0.mk (below_step qB6 hb);clear Aa;clear Ab;clear Ai;clear HB;have Aa:=n0_;have Ab:=n1_;have Ai:=n2_;have HB:=n3_;clear n0_ n1_ n2_ n3_;(try clear hb);(try clear hb2);(try clear hk);(try clear hi);have hnb29:=Bc.out;have hnc29:=Bd.out;have hcz30_0 : w28.cell? ⟨Ae,0,none⟩ = some (.int .i64 a1_0):=(blk_cell Ab.out 0).trans rfl;have hcz30_1 : w28.cell? ⟨Ae,1,none⟩ = some (.int .i64 a1_1):=(blk_cell Ab.out 1).trans rfl;have hcz30_2 : w28.cell? ⟨Ae,2,none⟩ = some (.int .i64 a1_2):=(blk_cell Ab.out 2).trans rfl;have hcz30_3 : w28.cell? ⟨Ae,3,none⟩ = some (.slice A1_3 l1_3.length c1_3):=(blk_cell Ab.out 3).trans rfl;have hcz30_4 : w28.cell? ⟨Ae,4,none⟩ = some (.slice A1_4 l1_4.length c1_4):=(blk_cell Ab.out 4).trans rfl;have hcz30_5 : w28.cell? ⟨Ae,5,none⟩ = some (.int .i64 a1_5):=(blk_cell Ab.out 5).trans rfl;have hfz30_0:=blk_frozen Ab.out 0;have hfz30_1:=blk_frozen Ab.out 1;have hfz30_2:=blk_frozen Ab.out 2;have hfz30_3:=blk_frozen Ab.out 3;have hfz30_4:=blk_frozen Ab.out 4;have hfz30_5:=blk_frozen Ab.out 5)|((with_reducible refine gate_callee (f:=9) rfl ?_);refine goesL_ (some 23) rfl rfl Try.func9 (by kernel_rfl) rfl #[.agg #[.int .i64 a1_0,.int .i64 a1_1,.int .i64 a1_2,.slice A1_3 l1_3.length c1_3,.slice A1_4 l1_4.length c1_4,.int .i64 a1_5]] rfl qA8 ?_;(with_reducible refine (turner_Check.calls k a1_0 a1_1 a1_2 _ _ l1_3 _ _ l1_4 a1_5 t135 _ ?side1 ?side2 ?side3 ?side4 A5.out).mono ?_);(case side1=>repeat (first|exact (Kd.C_below HR1_3.out HB.out)|(with_reducible refine Kd.C_alloc ?_ _)|(with_reducible refine Kd.C_drewN ?_ _)|(with_reducible refine Kd.C_drew ?_)));(case side2=>exact HC1_3.out);(case side3=>repeat (first|exact (Kd.C_below HR1_4.out HB.out)|(with_reducible refine Kd.C_alloc ?_ _)|(with_reducible refine Kd.C_drewN ?_ _)|(with_reducible refine Kd.C_drew ?_)));(case side4=>exact HC1_4.out);rintro e w31 ⟨rfl,hb⟩;refine ⟨_,rfl,?_⟩;have n0_:=Aside0.mk (blk_below (qD Aa.out) hb);have n1_:=Aside0.mk (blk_below (qD Ab.out) hb);have n2_:=Aside0.mk (blk_below (qD Ai.out) hb);have n3_:=Aside0.mk (below_step qB6 hb);clear Aa;clear Ab;clear Ai;clear HB;have Aa:=n0_;have Ab:=n1_;have Ai:=n2_;have HB:=n3_;clear n0_ n1_ n2_ n3_;(try clear hb);(try clear hb2);(try clear hk);(try clear hi);have hcz32_0 : w31.cell? ⟨Ac,0,none⟩ = some (.int .i64 a0_0):=(blk_cell Aa.out 0).trans rfl;have hcz32_1 : w31.cell? ⟨Ac,1,none⟩ = some (.int .i64 a0_1):=(blk_cell Aa.out 1).trans rfl;have hcz32_2 : w31.cell? ⟨Ac,2,none⟩ = some (.int .i64 a0_2):=(blk_cell Aa.out 2).trans rfl;have hcz32_3 : w31.cell? ⟨Ac,3,none⟩ = some (.slice A0_3 l0_3.length c0_3):=(blk_cell Aa.out 3).trans rfl;have hcz32_4 : w31.cell? ⟨Ac,4,none⟩ = some (.slice A0_4 l0_4.length c0_4):=(blk_cell Aa.out 4).trans rfl;have hcz32_5 : w31.cell? ⟨Ac,5,none⟩ = some (.int .i64 a0_5):=(blk_cell Aa.out 5).trans rfl;have hfz32_0:=blk_frozen Aa.out 0;have hfz32_1:=blk_frozen Aa.out 1;have hfz32_2:=blk_frozen Aa.out 2;have hfz32_3:=blk_frozen Aa.out 3;have hfz32_4:=blk_frozen Aa.out 4;have hfz32_5:=blk_frozen Aa.out 5;have hcz33_0 : w31.cell? ⟨Ae,0,none⟩ = some (.int .i64 a1_0):=(blk_cell Ab.out 0).trans rfl;have hcz33_1 : w31.cell? ⟨Ae,1,none⟩ = some (.int .i64 a1_1):=(blk_cell Ab.out 1).trans rfl;have hcz33_2 : w31.cell? ⟨Ae,2,none⟩ = some (.int .i64 a1_2):=(blk_cell Ab.out 2).trans rfl;have hcz33_3 : w31.cell? ⟨Ae,3,none⟩ = some (.slice A1_3 l1_3.length c1_3):=(blk_cell Ab.out 3).trans rfl;have hcz33_4 : w31.cell? ⟨Ae,4,none⟩ = some (.slice A1_4 l1_4.length c1_4):=(blk_cell Ab.out 4).trans rfl;have hcz33_5 : w31.cell? ⟨Ae,5,none⟩ = some (.int .i64 a1_5):=(blk_cell Ab.out 5).trans rfl;have hfz33_0:=blk_frozen Ab.out 0;have hfz33_1:=blk_frozen Ab.out 1;have hfz33_2:=blk_frozen Ab.out 2;have hfz33_3:=blk_frozen Ab.out 3;have hfz33_4:=blk_frozen Ab.out 4;have hfz33_5:=blk_frozen Ab.out 5)|((with_reducible refine gate_dst (N:=8) rfl ?_);refine box_event ?hg (N:=8) ?hd (cs:=#[.int .i64 0,.int .i64 0,.int .i64 0,.slice none 0 0,.slice none 0 0,.int .i64 0]) (t:=25) ?hr ?_;(case hd=>rfl);(case hg=>rfl);(case hr=>first|(go_simp;done)|(go_simp;rfl));intro Ak hg w34 hbox hb;have n0_:=Aside0.mk (blk_below (qD Aa.out) hb);have n1_:=Aside0.mk (blk_below (qD Ab.out) hb);have n2_:=Aside0.mk (blk_below (qD Ai.out) hb);have n3_:=Aside0.mk (below_step qB6 hb);have n4_:=Aside0.mk (hbox);have n5_:=Aside0.mk ((by rw [hg];exact (below_size qB6) : w.heap.size ≤ Ak));have n6_:=Aside0.mk ((by rw [hg];exact (below_size qB6) : w.heap.size ≤ Ak));have n7_:=Aside0.mk ((by rw [hg];exact Nat.ne_of_lt (blk_lt (qD Aa.out)) : Ac ≠ Ak));have n8_:=Aside0.mk ((by rw [hg];exact Nat.ne_of_gt (blk_lt (qD Aa.out)) : Ak ≠ Ac));have n9_:=Aside0.mk ((by rw [hg];exact Nat.ne_of_lt (blk_lt (qD Ab.out)) : Ae ≠ Ak));have n10_:=Aside0.mk ((by rw [hg];exact Nat.ne_of_gt (blk_lt (qD Ab.out)) : Ak ≠ Ae));have n11_:=Aside0.mk ((by rw [hg];exact Nat.ne_of_lt (blk_lt (qD Ai.out)) : Ag ≠ Ak));have n12_:=Aside0.mk ((by rw [hg];exact Nat.ne_of_gt (blk_lt (qD Ai.out)) : Ak ≠ Ag));clear Aa;clear Ab;clear Ai;clear HB;have Aa:=n0_;have Ab:=n1_;have Ai:=n2_;have HB:=n3_;have Aj:=n4_;have GW136:=n5_;have Ck:=n6_;have A6:=n7_;have By:=n8_;have A7:=n9_;have Bz:=n10_;have A8:=n11_;have B0:=n12_;clear n0_ n1_ n2_ n3_ n4_ n5_ n6_ n7_ n8_ n9_ n10_ n11_ n12_;clear hb hbox hg;have hnb35:=By.out;have hnc35:=A6.out;have hnb36:=Bz.out;have hnc36:=A7.out;have hnb37:=B0.out;have hnc37:=A8.out;have hcz38_0 : w34.cell? ⟨Ak,0,none⟩ = some (.int .i64 0):=(blk_cell Aj.out 0).trans rfl;have hcz38_1 : w34.cell? ⟨Ak,1,none⟩ = some (.int .i64 0):=(blk_cell Aj.out 1).trans rfl;have hcz38_2 : w34.cell? ⟨Ak,2,none⟩ = some (.int .i64 0):=(blk_cell Aj.out 2).trans rfl;have hcz38_3 : w34.cell? ⟨Ak,3,none⟩ = some (.slice none 0 0):=(blk_cell Aj.out 3).trans rfl;have hcz38_4 : w34.cell? ⟨Ak,4,none⟩ = some (.slice none 0 0):=(blk_cell Aj.out 4).trans rfl;have hcz38_5 : w34.cell? ⟨Ak,5,none⟩ = some (.int .i64 0):=(blk_cell Aj.out 5).trans rfl;have hfz38_0:=blk_frozen Aj.out 0;have hfz38_1:=blk_frozen Aj.out 1;have hfz38_2:=blk_frozen Aj.out 2;have hfz38_3:=blk_frozen Aj.out 3;have hfz38_4:=blk_frozen Aj.out 4;have hfz38_5:=blk_frozen Aj.out 5;have hcz39_0 : w34.cell? ⟨Ac,0,none⟩ = some (.int .i64 a0_0):=(blk_cell Aa.out 0).trans rfl;have hcz39_1 : w34.cell? ⟨Ac,1,none⟩ = some (.int .i64 a0_1):=(blk_cell Aa.out 1).trans rfl;have hcz39_2 : w34.cell? ⟨Ac,2,none⟩ = some (.int .i64 a0_2):=(blk_cell Aa.out 2).trans rfl;have hcz39_3 : w34.cell? ⟨Ac,3,none⟩ = some (.slice A0_3 l0_3.length c0_3):=(blk_cell Aa.out 3).trans rfl;have hcz39_4 : w34.cell? ⟨Ac,4,none⟩ = some (.slice A0_4 l0_4.length c0_4):=(blk_cell Aa.out 4).trans rfl;have hcz39_5 : w34.cell? ⟨Ac,5,none⟩ = some (.int .i64 a0_5):=(blk_cell Aa.out 5).trans rfl;have hfz39_0:=blk_frozen Aa.out 0;have hfz39_1:=blk_frozen Aa.out 1;have hfz39_2:=blk_frozen Aa.out 2;have hfz39_3:=blk_frozen Aa.out 3;have hfz39_4:=blk_frozen Aa.out 4;have hfz39_5:=blk_frozen Aa.out 5))
     go_loopg [61] k (fun kq v61 w'=>∃ (At : Int) (B1 : Int) (Bw : Int) (Br : Int) (Bl : Int) (Bn : List (List Int)) (Bp : List (List (List Int))) (Am : Value) (An : Value),v61 = .int .i64 At ∧ Aside0 (turner_Then.l0 kq a0_0 At a0_0 a0_1 a0_2 l0_3 l0_4 a0_5 a1_0 a1_1 a1_2 l1_3 l1_4 a1_5 (wrap64 (a0_0 * a1_0)) a0_1 a1_2 Bn Bp (wrap64 ((wrap64 (a0_5 * a1_0)) + a1_5)) = some (r1,r2,r3,r4,r5,r6,r7)) ∧ Aside0 (kq ≤ k) ∧ Aside0 (Kd.N (Kd.slice 3 (Kd.int .i64)) 26 w' w.heap.size (fun k_=>(w.heap.size ≤ k_) ∧ some k_ ≠ (An : Value).ownBlock ∧ k_ ≠ Ac ∧ k_ ≠ Ae ∧ k_ ≠ Ag ∧ k_ ≠ Ak) Am Bn) ∧ Aside0 (Kd.N (Kd.slice 26 (Kd.slice 3 (Kd.int .i64))) 22 w' w.heap.size (fun k_=>(w.heap.size ≤ k_) ∧ some k_ ≠ (Am : Value).ownBlock ∧ k_ ≠ Ac ∧ k_ ≠ Ae ∧ k_ ≠ Ag ∧ k_ ≠ Ak) An Bp) ∧ Aside0 (w'.heap[Ac]? = some (.cells #[.int .i64 a0_0,.int .i64 a0_1,.int .i64 a0_2,(.slice A0_3 l0_3.length c0_3),(.slice A0_4 l0_4.length c0_4),.int .i64 a0_5] 25 (0,0))) ∧ Aside0 (w'.heap[Ae]? = some (.cells #[.int .i64 a1_0,.int .i64 a1_1,.int .i64 a1_2,(.slice A1_3 l1_3.length c1_3),(.slice A1_4 l1_4.length c1_4),.int .i64 a1_5] 25 (0,0))) ∧ Aside0 (w'.heap[Ag]? = some (.cells #[.int .i64 B1,.int .i64 Bw,.int .i64 Br,(.slice none 0 0),(.slice none 0 0),.int .i64 Bl] 25 (0,0))) ∧ Aside0 (w'.heap[Ak]? = some (.cells #[.int .i64 (wrap64 (a0_0 * a1_0)),.int .i64 a0_1,.int .i64 a1_2,Am,An,.int .i64 (wrap64 ((wrap64 (a0_5 * a1_0)) + a1_5))] 25 (0,0))) ∧ Aside0 (Below w.heap.size w w'))
     case atStart=>exact ⟨(0),(0),(0),(0),(0),(([] : List (List Int))),(([] : List (List (List Int)))),(.slice none 0 0),(.slice none 0 0),(by first|rfl|(simp;done)|(simp [*];done)),H',⟨Nat.le_refl _⟩,⟨by first|exact Kd.S_nil _ _ _ _ _|exact Kd.N_nil _ _ _ _ _|exact Kd.V_nil _ _ _ _ _|exact Kd.Q_nil _ _ _ _ _|exact Kd.R_nil _ _ _ _ _⟩,⟨by first|exact Kd.R_nil _ _ _ _ _|exact Kd.N_nil _ _ _ _ _|exact Kd.V_nil _ _ _ _ _|exact Kd.Q_nil _ _ _ _ _|exact Kd.S_nil _ _ _ _ _⟩,⟨by (with_reducible repeat (first|refine blk_drewN ?_ _|refine blk_drew ?_|refine blk_alloc ?_ _));refine blk_far ?_ A6.out _;(with_reducible repeat (first|refine blk_drewN ?_ _|refine blk_drew ?_|refine blk_alloc ?_ _));refine blk_far ?_ A6.out _;(with_reducible repeat (first|refine blk_drewN ?_ _|refine blk_drew ?_|refine blk_alloc ?_ _));refine blk_far ?_ A6.out _;(with_reducible repeat (first|refine blk_drewN ?_ _|refine blk_drew ?_|refine blk_alloc ?_ _));refine blk_far ?_ A6.out _;(with_reducible repeat (first|refine blk_drewN ?_ _|refine blk_drew ?_|refine blk_alloc ?_ _));refine blk_far ?_ A6.out _;(with_reducible repeat (first|refine blk_drewN ?_ _|refine blk_drew ?_|refine blk_alloc ?_ _));refine blk_far ?_ A6.out _;(with_reducible repeat (first|refine blk_drewN ?_ _|refine blk_drew ?_|refine blk_alloc ?_ _));exact Aa.out⟩,⟨by (with_reducible repeat (first|refine blk_drewN ?_ _|refine blk_drew ?_|refine blk_alloc ?_ _));refine blk_far ?_ A7.out _;(with_reducible repeat (first|refine blk_drewN ?_ _|refine blk_drew ?_|refine blk_alloc ?_ _));refine blk_far ?_ A7.out _;(with_reducible repeat (first|refine blk_drewN ?_ _|refine blk_drew ?_|refine blk_alloc ?_ _));refine blk_far ?_ A7.out _;(with_reducible repeat (first|refine blk_drewN ?_ _|refine blk_drew ?_|refine blk_alloc ?_ _));refine blk_far ?_ A7.out _;(with_reducible repeat (first|refine blk_drewN ?_ _|refine blk_drew ?_|refine blk_alloc ?_ _));refine blk_far ?_ A7.out _;(with_reducible repeat (first|refine blk_drewN ?_ _|refine blk_drew ?_|refine blk_alloc ?_ _));refine blk_far ?_ A7.out _;(with_reducible repeat (first|refine blk_drewN ?_ _|refine blk_drew ?_|refine blk_alloc ?_ _));exact Ab.out⟩,⟨by (with_reducible repeat (first|refine blk_drewN ?_ _|refine blk_drew ?_|refine blk_alloc ?_ _));refine blk_far ?_ A8.out _;(with_reducible repeat (first|refine blk_drewN ?_ _|refine blk_drew ?_|refine blk_alloc ?_ _));refine blk_far ?_ A8.out _;(with_reducible repeat (first|refine blk_drewN ?_ _|refine blk_drew ?_|refine blk_alloc ?_ _));refine blk_far ?_ A8.out _;(with_reducible repeat (first|refine blk_drewN ?_ _|refine blk_drew ?_|refine blk_alloc ?_ _));refine blk_far ?_ A8.out _;(with_reducible repeat (first|refine blk_drewN ?_ _|refine blk_drew ?_|refine blk_alloc ?_ _));refine blk_far ?_ A8.out _;(with_reducible repeat (first|refine blk_drewN ?_ _|refine blk_drew ?_|refine blk_alloc ?_ _));refine blk_far ?_ A8.out _;(with_reducible repeat (first|refine blk_drewN ?_ _|refine blk_drew ?_|refine blk_alloc ?_ _));exact Ai.out⟩,⟨by (with_reducible repeat (first|refine blk_drewN ?_ _|refine blk_drew ?_|refine blk_alloc ?_ _));refine blk_put (cs:=#[.int .i64 (wrap64 (a0_0 * a1_0)),.int .i64 a0_1,.int .i64 a1_2,.slice none 0 0,.slice none 0 0,.int .i64 0]) ?_ 5 _ rfl;(with_reducible repeat (first|refine blk_drewN ?_ _|refine blk_drew ?_|refine blk_alloc ?_ _));refine blk_put (cs:=#[.int .i64 (wrap64 (a0_0 * a1_0)),.int .i64 a0_1,.int .i64 a1_2,.slice none 0 0,.slice none 0 0,.int .i64 0]) ?_ 4 _ rfl;(with_reducible repeat (first|refine blk_drewN ?_ _|refine blk_drew ?_|refine blk_alloc ?_ _));refine blk_put (cs:=#[.int .i64 (wrap64 (a0_0 * a1_0)),.int .i64 a0_1,.int .i64 a1_2,.slice none 0 0,.slice none 0 0,.int .i64 0]) ?_ 3 _ rfl;(with_reducible repeat (first|refine blk_drewN ?_ _|refine blk_drew ?_|refine blk_alloc ?_ _));refine blk_put (cs:=#[.int .i64 (wrap64 (a0_0 * a1_0)),.int .i64 a0_1,.int .i64 0,.slice none 0 0,.slice none 0 0,.int .i64 0]) ?_ 2 _ rfl;(with_reducible repeat (first|refine blk_drewN ?_ _|refine blk_drew ?_|refine blk_alloc ?_ _));refine blk_put (cs:=#[.int .i64 (wrap64 (a0_0 * a1_0)),.int .i64 0,.int .i64 0,.slice none 0 0,.slice none 0 0,.int .i64 0]) ?_ 1 _ rfl;(with_reducible repeat (first|refine blk_drewN ?_ _|refine blk_drew ?_|refine blk_alloc ?_ _));refine blk_put (cs:=#[.int .i64 0,.int .i64 0,.int .i64 0,.slice none 0 0,.slice none 0 0,.int .i64 0]) ?_ 0 _ rfl;(with_reducible repeat (first|refine blk_drewN ?_ _|refine blk_drew ?_|refine blk_alloc ?_ _));exact Aj.out⟩,⟨by repeat (first|(with_reducible first|exact HB.out|apply below_alloc|apply pw_below_drewN|apply below_drew1|refine below_set ?_ Bs.out|refine below_set ?_ Bt.out|refine below_set ?_ Bu.out|refine below_set ?_ Ck.out)|exact HB.out)⟩⟩
     case round =>
      clear H'
      try clear c1
      try clear c2
      try clear p2
      try clear c3
      try clear c4
      try clear c4b0
      try clear c4b1
      try clear c6
      try clear c6b0
      try clear c6b1
      try clear p6
      try clear c7
      try clear c7b0
      try clear c7b1
      try clear c8
      try clear c8b0
      try clear c9
      try clear c12
      try clear c13
      try clear c16
      try clear c25
      try clear c26
      try clear c29
      try clear c35
      try clear c36
      try clear c37
      try clear hcz14_0
      try clear hcz14_1
      try clear hcz14_2
      try clear hcz14_3
      try clear hcz14_4
      try clear hcz14_5
      try clear hcz17_0
      try clear hcz17_1
      try clear hcz17_2
      try clear hcz17_3
      try clear hcz17_4
      try clear hcz17_5
      try clear hcz19_0
      try clear hcz19_1
      try clear hcz19_2
      try clear hcz19_3
      try clear hcz19_4
      try clear hcz19_5
      try clear hcz20_0
      try clear hcz20_1
      try clear hcz20_2
      try clear hcz20_3
      try clear hcz20_4
      try clear hcz20_5
      try clear hcz21_0
      try clear hcz21_1
      try clear hcz21_2
      try clear hcz21_3
      try clear hcz21_4
      try clear hcz21_5
      try clear hcz27_0
      try clear hcz27_1
      try clear hcz27_2
      try clear hcz27_3
      try clear hcz27_4
      try clear hcz27_5
      try clear hcz30_0
      try clear hcz30_1
      try clear hcz30_2
      try clear hcz30_3
      try clear hcz30_4
      try clear hcz30_5
      try clear hcz32_0
      try clear hcz32_1
      try clear hcz32_2
      try clear hcz32_3
      try clear hcz32_4
      try clear hcz32_5
      try clear hcz33_0
      try clear hcz33_1
      try clear hcz33_2
      try clear hcz33_3
      try clear hcz33_4
      try clear hcz33_5
      try clear hcz38_0
      try clear hcz38_1
      try clear hcz38_2
      try clear hcz38_3
      try clear hcz38_4
      try clear hcz38_5
      try clear hcz39_0
      try clear hcz39_1
      try clear hcz39_2
      try clear hcz39_3
      try clear hcz39_4
      try clear hcz39_5
      try clear hfz14_0
      try clear hfz14_1
      try clear hfz14_2
      try clear hfz14_3
      try clear hfz14_4
      try clear hfz14_5
      try clear hfz17_0
      try clear hfz17_1
      try clear hfz17_2
      try clear hfz17_3
      try clear hfz17_4
      try clear hfz17_5
      try clear hfz19_0
      try clear hfz19_1
      try clear hfz19_2
      try clear hfz19_3
      try clear hfz19_4
      try clear hfz19_5
      try clear hfz20_0
      try clear hfz20_1
      try clear hfz20_2
      try clear hfz20_3
      try clear hfz20_4
      try clear hfz20_5
      try clear hfz21_0
      try clear hfz21_1
      try clear hfz21_2
      try clear hfz21_3
      try clear hfz21_4
      try clear hfz21_5
      try clear hfz27_0
      try clear hfz27_1
      try clear hfz27_2
      try clear hfz27_3
      try clear hfz27_4
      try clear hfz27_5
      try clear hfz30_0
      try clear hfz30_1
      try clear hfz30_2
      try clear hfz30_3
      try clear hfz30_4
      try clear hfz30_5
      try clear hfz32_0
      try clear hfz32_1
      try clear hfz32_2
      try clear hfz32_3
      try clear hfz32_4
      try clear hfz32_5
      try clear hfz33_0
      try clear hfz33_1
      try clear hfz33_2
      try clear hfz33_3
      try clear hfz33_4
      try clear hfz33_5
      try clear hfz38_0
      try clear hfz38_1
      try clear hfz38_2
      try clear hfz38_3
      try clear hfz38_4
      try clear hfz38_5
      try clear hfz39_0
      try clear hfz39_1
      try clear hfz39_2
      try clear hfz39_3
      try clear hfz39_4
      try clear hfz39_5
      obtain ⟨At,B1,Bw,Br,Bl,Bn,Bp,Am,An,rfl,HA,HK1,Af,Ad,Aa,Ab,Ai,Aj,HB⟩:=hrel
      cases gk with
      | zero=>exact absurd HA.out (by simp [turner_Then.l0])
      | succ k1 =>
       have H:=HA.out
       clear HA
       simp only [turner_Then.l0] at H
       by_cases c40 : At < a0_0
       ·rw [if_pos c40] at H
        have c40b0 : decide (At < a0_0) = true:=decide_eq_true c40
        clear c40
        have H':=Aside0.mk H
        clear H
        have hnb41:=Bg.out
        have hnc41:=Bf.out
        have hnb42:=Bc.out
        have hnc42:=Bd.out
        have hnb43:=A7.out
        have hnc43:=Bz.out
        have hcz44_0 : wr.cell? ⟨Ae,0,none⟩ = some (.int .i64 a1_0):=(blk_cell Ab.out 0).trans rfl
        have hcz44_1 : wr.cell? ⟨Ae,1,none⟩ = some (.int .i64 a1_1):=(blk_cell Ab.out 1).trans rfl
        have hcz44_2 : wr.cell? ⟨Ae,2,none⟩ = some (.int .i64 a1_2):=(blk_cell Ab.out 2).trans rfl
        have hcz44_3 : wr.cell? ⟨Ae,3,none⟩ = some (.slice A1_3 l1_3.length c1_3):=(blk_cell Ab.out 3).trans rfl
        have hcz44_4 : wr.cell? ⟨Ae,4,none⟩ = some (.slice A1_4 l1_4.length c1_4):=(blk_cell Ab.out 4).trans rfl
        have hcz44_5 : wr.cell? ⟨Ae,5,none⟩ = some (.int .i64 a1_5):=(blk_cell Ab.out 5).trans rfl
        have hfz44_0:=blk_frozen Ab.out 0
        have hfz44_1:=blk_frozen Ab.out 1
        have hfz44_2:=blk_frozen Ab.out 2
        have hfz44_3:=blk_frozen Ab.out 3
        have hfz44_4:=blk_frozen Ab.out 4
        have hfz44_5:=blk_frozen Ab.out 5
        go_wp2
        go_loopg [66] k1 (fun kq v66 w'=>∃ (Bh : Int) (B9 : Int) (Ca : Int) (Cb : Int) (Cc : Int) (Al : List (List Int)) (Ah : List (List (List Int))) (Am : Value) (An : Value),v66 = .int .i64 Bh ∧ Aside0 (turner_Then.l1 kq At a0_0 At a1_0 Bh a0_0 a0_1 a0_2 l0_3 l0_4 a0_5 a1_0 a1_1 a1_2 l1_3 l1_4 a1_5 (wrap64 (a0_0 * a1_0)) a0_1 a1_2 Al Ah (wrap64 ((wrap64 (a0_5 * a1_0)) + a1_5)) = some (r1,r2,r3,r4,r5,r6,r7)) ∧ Aside0 (kq ≤ k1) ∧ Aside0 (Kd.N (Kd.slice 3 (Kd.int .i64)) 26 w' w.heap.size (fun k_=>(w.heap.size ≤ k_) ∧ some k_ ≠ (An : Value).ownBlock ∧ k_ ≠ Ac ∧ k_ ≠ Ae ∧ k_ ≠ Ag ∧ k_ ≠ Ak) Am Al) ∧ Aside0 (Kd.N (Kd.slice 26 (Kd.slice 3 (Kd.int .i64))) 22 w' w.heap.size (fun k_=>(w.heap.size ≤ k_) ∧ some k_ ≠ (Am : Value).ownBlock ∧ k_ ≠ Ac ∧ k_ ≠ Ae ∧ k_ ≠ Ag ∧ k_ ≠ Ak) An Ah) ∧ Aside0 (w'.heap[Ac]? = some (.cells #[.int .i64 a0_0,.int .i64 a0_1,.int .i64 a0_2,(.slice A0_3 l0_3.length c0_3),(.slice A0_4 l0_4.length c0_4),.int .i64 a0_5] 25 (0,0))) ∧ Aside0 (w'.heap[Ae]? = some (.cells #[.int .i64 a1_0,.int .i64 a1_1,.int .i64 a1_2,(.slice A1_3 l1_3.length c1_3),(.slice A1_4 l1_4.length c1_4),.int .i64 a1_5] 25 (0,0))) ∧ Aside0 (w'.heap[Ag]? = some (.cells #[.int .i64 B9,.int .i64 Ca,.int .i64 Cb,(.slice none 0 0),(.slice none 0 0),.int .i64 Cc] 25 (0,0))) ∧ Aside0 (w'.heap[Ak]? = some (.cells #[.int .i64 (wrap64 (a0_0 * a1_0)),.int .i64 a0_1,.int .i64 a1_2,Am,An,.int .i64 (wrap64 ((wrap64 (a0_5 * a1_0)) + a1_5))] 25 (0,0))) ∧ Aside0 (Below w.heap.size w w'))
        case atStart=>exact ⟨(0),(B1),(Bw),(Br),(Bl),(Bn),(Bp),(Am),(An),(by first|rfl|(simp;done)|(simp [*];done)),H',⟨Nat.le_refl _⟩,⟨by (with_reducible repeat (first|apply Kd.N_alloc|apply Kd.N_drewN|apply Kd.N_drew));exact Af.out⟩,⟨by (with_reducible repeat (first|apply Kd.N_alloc|apply Kd.N_drewN|apply Kd.N_drew));exact Ad.out⟩,⟨by (with_reducible repeat (first|refine blk_drewN ?_ _|refine blk_drew ?_|refine blk_alloc ?_ _));exact Aa.out⟩,⟨by (with_reducible repeat (first|refine blk_drewN ?_ _|refine blk_drew ?_|refine blk_alloc ?_ _));exact Ab.out⟩,⟨by (with_reducible repeat (first|refine blk_drewN ?_ _|refine blk_drew ?_|refine blk_alloc ?_ _));exact Ai.out⟩,⟨by (with_reducible repeat (first|refine blk_drewN ?_ _|refine blk_drew ?_|refine blk_alloc ?_ _));exact Aj.out⟩,⟨by repeat (first|(with_reducible first|exact HB.out|apply below_alloc|apply pw_below_drewN|apply below_drew1|refine below_set ?_ Bs.out|refine below_set ?_ Bt.out|refine below_set ?_ Bu.out|refine below_set ?_ Ck.out)|exact HB.out)⟩⟩
        case round =>
         clear H'
         try clear c1
         try clear c2
         try clear p2
         try clear c3
         try clear c4
         try clear c4b0
         try clear c4b1
         try clear c6
         try clear c6b0
         try clear c6b1
         try clear p6
         try clear c7
         try clear c7b0
         try clear c7b1
         try clear c8
         try clear c8b0
         try clear c9
         try clear c12
         try clear c13
         try clear c16
         try clear c25
         try clear c26
         try clear c29
         try clear c35
         try clear c36
         try clear c37
         try clear c40
         try clear c40b0
         try clear c41
         try clear c42
         try clear c43
         try clear hcz14_0
         try clear hcz14_1
         try clear hcz14_2
         try clear hcz14_3
         try clear hcz14_4
         try clear hcz14_5
         try clear hcz17_0
         try clear hcz17_1
         try clear hcz17_2
         try clear hcz17_3
         try clear hcz17_4
         try clear hcz17_5
         try clear hcz19_0
         try clear hcz19_1
         try clear hcz19_2
         try clear hcz19_3
         try clear hcz19_4
         try clear hcz19_5
         try clear hcz20_0
         try clear hcz20_1
         try clear hcz20_2
         try clear hcz20_3
         try clear hcz20_4
         try clear hcz20_5
         try clear hcz21_0
         try clear hcz21_1
         try clear hcz21_2
         try clear hcz21_3
         try clear hcz21_4
         try clear hcz21_5
         try clear hcz27_0
         try clear hcz27_1
         try clear hcz27_2
         try clear hcz27_3
         try clear hcz27_4
         try clear hcz27_5
         try clear hcz30_0
         try clear hcz30_1
         try clear hcz30_2
         try clear hcz30_3
         try clear hcz30_4
         try clear hcz30_5
         try clear hcz32_0
         try clear hcz32_1
         try clear hcz32_2
         try clear hcz32_3
         try clear hcz32_4
         try clear hcz32_5
         try clear hcz33_0
         try clear hcz33_1
         try clear hcz33_2
         try clear hcz33_3
         try clear hcz33_4
         try clear hcz33_5
         try clear hcz38_0
         try clear hcz38_1
         try clear hcz38_2
         try clear hcz38_3
         try clear hcz38_4
         try clear hcz38_5
         try clear hcz39_0
         try clear hcz39_1
         try clear hcz39_2
         try clear hcz39_3
         try clear hcz39_4
         try clear hcz39_5
         try clear hcz44_0
         try clear hcz44_1
         try clear hcz44_2
         try clear hcz44_3
         try clear hcz44_4
         try clear hcz44_5
         try clear hfz14_0
         try clear hfz14_1
         try clear hfz14_2
         try clear hfz14_3
         try clear hfz14_4
         try clear hfz14_5
         try clear hfz17_0
         try clear hfz17_1
         try clear hfz17_2
         try clear hfz17_3
         try clear hfz17_4
         try clear hfz17_5
         try clear hfz19_0
         try clear hfz19_1
         try clear hfz19_2
         try clear hfz19_3
         try clear hfz19_4
         try clear hfz19_5
         try clear hfz20_0
         try clear hfz20_1
         try clear hfz20_2
         try clear hfz20_3
         try clear hfz20_4
         try clear hfz20_5
         try clear hfz21_0
         try clear hfz21_1
         try clear hfz21_2
         try clear hfz21_3
         try clear hfz21_4
         try clear hfz21_5
         try clear hfz27_0
         try clear hfz27_1
         try clear hfz27_2
         try clear hfz27_3
         try clear hfz27_4
         try clear hfz27_5
         try clear hfz30_0
         try clear hfz30_1
         try clear hfz30_2
         try clear hfz30_3
         try clear hfz30_4
         try clear hfz30_5
         try clear hfz32_0
         try clear hfz32_1
         try clear hfz32_2
         try clear hfz32_3
         try clear hfz32_4
         try clear hfz32_5
         try clear hfz33_0
         try clear hfz33_1
         try clear hfz33_2
         try clear hfz33_3
         try clear hfz33_4
         try clear hfz33_5
         try clear hfz38_0
         try clear hfz38_1
         try clear hfz38_2
         try clear hfz38_3
         try clear hfz38_4
         try clear hfz38_5
         try clear hfz39_0
         try clear hfz39_1
         try clear hfz39_2
         try clear hfz39_3
         try clear hfz39_4
         try clear hfz39_5
         try clear hfz44_0
         try clear hfz44_1
         try clear hfz44_2
         try clear hfz44_3
         try clear hfz44_4
         try clear hfz44_5
         try clear p2
         try clear p6
         obtain ⟨Bh,B9,Ca,Cb,Cc,Al,Ah,Am,An,rfl,HA,HK2,Af,Ad,Aa,Ab,Ai,Aj,HB⟩:=hrel
         cases gk with
         | zero=>exact absurd HA.out (by simp [turner_Then.l1])
         | succ k2 =>
          have H:=HA.out
          clear HA
          simp only [turner_Then.l1] at H
          by_cases c45 : Bh < a1_0
          ·rw [if_pos c45] at H
           have c45b0 : decide (Bh < a1_0) = true:=decide_eq_true c45
           clear c45
           have H':=Aside0.mk H
           clear H
           have hnb46:=Bf.out
           have hnc46:=Bg.out
           have hnb47:=Ba.out
           have hnc47:=Bb.out
           have hnb48:=A6.out
           have hnc48:=By.out
           have hcz49_0 : wr.cell? ⟨Ac,0,none⟩ = some (.int .i64 a0_0):=(blk_cell Aa.out 0).trans rfl
           have hcz49_1 : wr.cell? ⟨Ac,1,none⟩ = some (.int .i64 a0_1):=(blk_cell Aa.out 1).trans rfl
           have hcz49_2 : wr.cell? ⟨Ac,2,none⟩ = some (.int .i64 a0_2):=(blk_cell Aa.out 2).trans rfl
           have hcz49_3 : wr.cell? ⟨Ac,3,none⟩ = some (.slice A0_3 l0_3.length c0_3):=(blk_cell Aa.out 3).trans rfl
           have hcz49_4 : wr.cell? ⟨Ac,4,none⟩ = some (.slice A0_4 l0_4.length c0_4):=(blk_cell Aa.out 4).trans rfl
           have hcz49_5 : wr.cell? ⟨Ac,5,none⟩ = some (.int .i64 a0_5):=(blk_cell Aa.out 5).trans rfl
           have hfz49_0:=blk_frozen Aa.out 0
           have hfz49_1:=blk_frozen Aa.out 1
           have hfz49_2:=blk_frozen Aa.out 2
           have hfz49_3:=blk_frozen Aa.out 3
           have hfz49_4:=blk_frozen Aa.out 4
           have hfz49_5:=blk_frozen Aa.out 5
           go_wp2
           go_loopg [11,12,71] k2 (fun kq v11 v12 v71 w'=>∃ (Az : List Int) (Au : List (List Int)) (Ay : Int) (As : Int) (Ar : Int) (Ap : Int) (Ao : Int),v71 = .int .i64 Ay ∧ Aside0 (turner_Then.l2 kq At Bh Az Au a0_0 At a1_0 Bh a0_1 Ay a0_0 a0_1 a0_2 l0_3 l0_4 a0_5 a1_0 a1_1 a1_2 l1_3 l1_4 a1_5 (wrap64 (a0_0 * a1_0)) a0_1 a1_2 Al Ah (wrap64 ((wrap64 (a0_5 * a1_0)) + a1_5)) = some (r1,r2,r3,r4,r5,r6,r7)) ∧ Aside0 (kq ≤ k2) ∧ Aside0 (Kd.R (Kd.int .i64) 3 w' w.heap.size (fun k_=>(w.heap.size ≤ k_)) v11 Az) ∧ Aside0 (Kd.N (Kd.slice 3 (Kd.int .i64)) 26 w' w.heap.size (fun k_=>(w.heap.size ≤ k_) ∧ some k_ ≠ (v11 : Value).ownBlock ∧ some k_ ≠ (Am : Value).ownBlock ∧ some k_ ≠ (An : Value).ownBlock ∧ k_ ≠ Ac ∧ k_ ≠ Ae ∧ k_ ≠ Ag ∧ k_ ≠ Ak) v12 Au) ∧ Aside0 (Kd.N (Kd.slice 3 (Kd.int .i64)) 26 w' w.heap.size (fun k_=>(w.heap.size ≤ k_) ∧ some k_ ≠ (v11 : Value).ownBlock ∧ some k_ ≠ (v12 : Value).ownBlock ∧ some k_ ≠ (An : Value).ownBlock ∧ k_ ≠ Ac ∧ k_ ≠ Ae ∧ k_ ≠ Ag ∧ k_ ≠ Ak) Am Al) ∧ Aside0 (Kd.N (Kd.slice 26 (Kd.slice 3 (Kd.int .i64))) 22 w' w.heap.size (fun k_=>(w.heap.size ≤ k_) ∧ some k_ ≠ (v11 : Value).ownBlock ∧ some k_ ≠ (v12 : Value).ownBlock ∧ some k_ ≠ (Am : Value).ownBlock ∧ k_ ≠ Ac ∧ k_ ≠ Ae ∧ k_ ≠ Ag ∧ k_ ≠ Ak) An Ah) ∧ Aside0 (w'.heap[Ac]? = some (.cells #[.int .i64 a0_0,.int .i64 a0_1,.int .i64 a0_2,(.slice A0_3 l0_3.length c0_3),(.slice A0_4 l0_4.length c0_4),.int .i64 a0_5] 25 (0,0))) ∧ Aside0 (w'.heap[Ae]? = some (.cells #[.int .i64 a1_0,.int .i64 a1_1,.int .i64 a1_2,(.slice A1_3 l1_3.length c1_3),(.slice A1_4 l1_4.length c1_4),.int .i64 a1_5] 25 (0,0))) ∧ Aside0 (w'.heap[Ag]? = some (.cells #[.int .i64 As,.int .i64 Ar,.int .i64 Ap,(.slice none 0 0),(.slice none 0 0),.int .i64 Ao] 25 (0,0))) ∧ Aside0 (w'.heap[Ak]? = some (.cells #[.int .i64 (wrap64 (a0_0 * a1_0)),.int .i64 a0_1,.int .i64 a1_2,Am,An,.int .i64 (wrap64 ((wrap64 (a0_5 * a1_0)) + a1_5))] 25 (0,0))) ∧ Aside0 (Below w.heap.size w w'))
           case atStart=>exact ⟨(([] : List Int)),(([] : List (List Int))),(0),(B9),(Ca),(Cb),(Cc),(by first|rfl|(simp;done)|(simp [*];done)),H',⟨Nat.le_refl _⟩,⟨by first|exact Kd.R_nil _ _ _ _ _|exact Kd.N_nil _ _ _ _ _|exact Kd.V_nil _ _ _ _ _|exact Kd.Q_nil _ _ _ _ _|exact Kd.S_nil _ _ _ _ _⟩,⟨by first|exact Kd.S_nil _ _ _ _ _|exact Kd.N_nil _ _ _ _ _|exact Kd.V_nil _ _ _ _ _|exact Kd.Q_nil _ _ _ _ _|exact Kd.R_nil _ _ _ _ _⟩,⟨by (with_reducible repeat (first|apply Kd.N_alloc|apply Kd.N_drewN|apply Kd.N_drew));exact Kd.N_mono Af.out (fun _ hk=>⟨hk.1,⟨(by simp [Value.ownBlock]),⟨(by simp [Value.ownBlock]),⟨hk.2.1,⟨hk.2.2.1,⟨hk.2.2.2.1,⟨hk.2.2.2.2.1,hk.2.2.2.2.2⟩⟩⟩⟩⟩⟩⟩)⟩,⟨by (with_reducible repeat (first|apply Kd.N_alloc|apply Kd.N_drewN|apply Kd.N_drew));exact Kd.N_mono Ad.out (fun _ hk=>⟨hk.1,⟨(by simp [Value.ownBlock]),⟨(by simp [Value.ownBlock]),⟨hk.2.1,⟨hk.2.2.1,⟨hk.2.2.2.1,⟨hk.2.2.2.2.1,hk.2.2.2.2.2⟩⟩⟩⟩⟩⟩⟩)⟩,⟨by (with_reducible repeat (first|refine blk_drewN ?_ _|refine blk_drew ?_|refine blk_alloc ?_ _));exact Aa.out⟩,⟨by (with_reducible repeat (first|refine blk_drewN ?_ _|refine blk_drew ?_|refine blk_alloc ?_ _));exact Ab.out⟩,⟨by (with_reducible repeat (first|refine blk_drewN ?_ _|refine blk_drew ?_|refine blk_alloc ?_ _));exact Ai.out⟩,⟨by (with_reducible repeat (first|refine blk_drewN ?_ _|refine blk_drew ?_|refine blk_alloc ?_ _));exact Aj.out⟩,⟨by repeat (first|(with_reducible first|exact HB.out|apply below_alloc|apply pw_below_drewN|apply below_drew1|refine below_set ?_ Bs.out|refine below_set ?_ Bt.out|refine below_set ?_ Bu.out|refine below_set ?_ Ck.out)|exact HB.out)⟩⟩
           case round =>
            clear H'
            try clear c1
            try clear c2
            try clear p2
            try clear c3
            try clear c4
            try clear c4b0
            try clear c4b1
            try clear c6
            try clear c6b0
            try clear c6b1
            try clear p6
            try clear c7
            try clear c7b0
            try clear c7b1
            try clear c8
            try clear c8b0
            try clear c9
            try clear c12
            try clear c13
            try clear c16
            try clear c25
            try clear c26
            try clear c29
            try clear c35
            try clear c36
            try clear c37
            try clear c40
            try clear c40b0
            try clear c41
            try clear c42
            try clear c43
            try clear c45
            try clear c45b0
            try clear c46
            try clear c47
            try clear c48
            try clear hcz14_0
            try clear hcz14_1
            try clear hcz14_2
            try clear hcz14_3
            try clear hcz14_4
            try clear hcz14_5
            try clear hcz17_0
            try clear hcz17_1
            try clear hcz17_2
            try clear hcz17_3
            try clear hcz17_4
            try clear hcz17_5
            try clear hcz19_0
            try clear hcz19_1
            try clear hcz19_2
            try clear hcz19_3
            try clear hcz19_4
            try clear hcz19_5
            try clear hcz20_0
            try clear hcz20_1
            try clear hcz20_2
            try clear hcz20_3
            try clear hcz20_4
            try clear hcz20_5
            try clear hcz21_0
            try clear hcz21_1
            try clear hcz21_2
            try clear hcz21_3
            try clear hcz21_4
            try clear hcz21_5
            try clear hcz27_0
            try clear hcz27_1
            try clear hcz27_2
            try clear hcz27_3
            try clear hcz27_4
            try clear hcz27_5
            try clear hcz30_0
            try clear hcz30_1
            try clear hcz30_2
            try clear hcz30_3
            try clear hcz30_4
            try clear hcz30_5
            try clear hcz32_0
            try clear hcz32_1
            try clear hcz32_2
            try clear hcz32_3
            try clear hcz32_4
            try clear hcz32_5
            try clear hcz33_0
            try clear hcz33_1
            try clear hcz33_2
            try clear hcz33_3
            try clear hcz33_4
            try clear hcz33_5
            try clear hcz38_0
            try clear hcz38_1
            try clear hcz38_2
            try clear hcz38_3
            try clear hcz38_4
            try clear hcz38_5
            try clear hcz39_0
            try clear hcz39_1
            try clear hcz39_2
            try clear hcz39_3
            try clear hcz39_4
            try clear hcz39_5
            try clear hcz44_0
            try clear hcz44_1
            try clear hcz44_2
            try clear hcz44_3
            try clear hcz44_4
            try clear hcz44_5
            try clear hcz49_0
            try clear hcz49_1
            try clear hcz49_2
            try clear hcz49_3
            try clear hcz49_4
            try clear hcz49_5
            try clear hfz14_0
            try clear hfz14_1
            try clear hfz14_2
            try clear hfz14_3
            try clear hfz14_4
            try clear hfz14_5
            try clear hfz17_0
            try clear hfz17_1
            try clear hfz17_2
            try clear hfz17_3
            try clear hfz17_4
            try clear hfz17_5
            try clear hfz19_0
            try clear hfz19_1
            try clear hfz19_2
            try clear hfz19_3
            try clear hfz19_4
            try clear hfz19_5
            try clear hfz20_0
            try clear hfz20_1
            try clear hfz20_2
            try clear hfz20_3
            try clear hfz20_4
            try clear hfz20_5
            try clear hfz21_0
            try clear hfz21_1
            try clear hfz21_2
            try clear hfz21_3
            try clear hfz21_4
            try clear hfz21_5
            try clear hfz27_0
            try clear hfz27_1
            try clear hfz27_2
            try clear hfz27_3
            try clear hfz27_4
            try clear hfz27_5
            try clear hfz30_0
            try clear hfz30_1
            try clear hfz30_2
            try clear hfz30_3
            try clear hfz30_4
            try clear hfz30_5
            try clear hfz32_0
            try clear hfz32_1
            try clear hfz32_2
            try clear hfz32_3
            try clear hfz32_4
            try clear hfz32_5
            try clear hfz33_0
            try clear hfz33_1
            try clear hfz33_2
            try clear hfz33_3
            try clear hfz33_4
            try clear hfz33_5
            try clear hfz38_0
            try clear hfz38_1
            try clear hfz38_2
            try clear hfz38_3
            try clear hfz38_4
            try clear hfz38_5
            try clear hfz39_0
            try clear hfz39_1
            try clear hfz39_2
            try clear hfz39_3
            try clear hfz39_4
            try clear hfz39_5
            try clear hfz44_0
            try clear hfz44_1
            try clear hfz44_2
            try clear hfz44_3
            try clear hfz44_4
            try clear hfz44_5
            try clear hfz49_0
            try clear hfz49_1
            try clear hfz49_2
            try clear hfz49_3
            try clear hfz49_4
            try clear hfz49_5
            try clear p2
            try clear p6
            obtain ⟨Az,Au,Ay,As,Ar,Ap,Ao,rfl,HA,HK3,Av,Aq,Af,Ad,Aa,Ab,Ai,Aj,HB⟩:=hrel
            cases gk with
            | zero=>exact absurd HA.out (by simp [turner_Then.l2])
            | succ k3 =>
             have H:=HA.out
             clear HA
             simp only [turner_Then.l2] at H
             by_cases c50 : Ay < a0_1
             ·rw [if_pos c50] at H
              have c50b0 : decide (Ay < a0_1) = true:=decide_eq_true c50
              clear c50
              by_cases c51 : 0 ≤ At
              ·rw [if_pos c51] at H
               have c51b0 : decide (0 ≤ At) = true:=decide_eq_true c51
               clear c51
               by_cases c52 : At < (l0_4.length : Int)
               ·rw [if_pos c52] at H
                have c52b0 : decide (At < (l0_4.length : Int)) = true:=decide_eq_true c52
                clear c52
                by_cases c53 : 0 ≤ Ay
                ·rw [if_pos c53] at H
                 have c53b0 : decide (0 ≤ Ay) = true:=decide_eq_true c53
                 clear c53
                 by_cases c54 : Ay < ((rd_L2 l0_4 At).length : Int)
                 ·rw [if_pos c54] at H
                  have c54b0 : decide (Ay < ((rd_L2 l0_4 At).length : Int)) = true:=decide_eq_true c54
                  clear c54
                  replace H:=Option.bind_eq_some_iff.mp H
                  obtain ⟨⟨Bm,Cl⟩,A550,H⟩:=H
                  replace H : (if (Bm.length : Int) > 4 then (some (0,0,0,([] : List (List Int)),([] : List (List (List Int))),0,1)) else (if At < (l0_3.length : Int) then (if Ay < ((rd_L1 l0_3 At).length : Int) then ((some (([wrap64 ((wrap64 ((rd (rd_L1 l0_3 At) Ay) * a1_0)) + Cl)] : List Int) : List Int)).bind fun Be=>(if Az.length + Be.length < 17592186044416 then ((some (([Bm] : List (List Int)) : List (List Int))).bind fun B4=>(if Au.length + B4.length < 5864062014805 then (turner_Then.l2 k3 At Bh (Az ++ Be) (Au ++ B4) a0_0 At a1_0 Bh a0_1 (wrap64 (Ay + 1)) a0_0 a0_1 a0_2 l0_3 l0_4 a0_5 a1_0 a1_1 a1_2 l1_3 l1_4 a1_5 (wrap64 (a0_0 * a1_0)) a0_1 a1_2 Al Ah (wrap64 ((wrap64 (a0_5 * a1_0)) + a1_5))) else (none))) else (none))) else (none)) else (none))) = some (r1,r2,r3,r4,r5,r6,r7):=H
                  have A55:=Aside0.mk A550
                  clear A550
                  by_cases c56 : (Bm.length : Int) > 4
                  ·rw [if_pos c56] at H
                   have c56b0 : decide (4 < (Bm.length : Int)) = true:=decide_eq_true c56
                   have c56b1 : decide (4 < Bm.length) = true:=decide_eq_true (by omega)
                   clear c56
                   simp only [Option.some.injEq,Prod.mk.injEq] at H
                   obtain ⟨rfl,rfl,rfl,rfl,rfl,rfl,rfl⟩:=H
                   try go_wp2
                   have n0_:=Aside0.mk (Kd.R_drew Av.out)
                   have n1_:=Aside0.mk (Kd.N_drew Aq.out)
                   have n2_:=Aside0.mk (Kd.N_drew Af.out)
                   have n3_:=Aside0.mk (Kd.N_drew Ad.out)
                   have n4_:=Aside0.mk (blk_drew Aa.out)
                   have n5_:=Aside0.mk (blk_drew Ab.out)
                   have n6_:=Aside0.mk (blk_drew Ai.out)
                   have n7_:=Aside0.mk (blk_drew Aj.out)
                   have n8_:=Aside0.mk (below_drew1 HB.out)
                   clear Av
                   clear Aq
                   clear Af
                   clear Ad
                   clear Aa
                   clear Ab
                   clear Ai
                   clear Aj
                   clear HB
                   have Av:=n0_
                   have Aq:=n1_
                   have Af:=n2_
                   have Ad:=n3_
                   have Aa:=n4_
                   have Ab:=n5_
                   have Ai:=n6_
                   have Aj:=n7_
                   have HB:=n8_
                   clear n0_ n1_ n2_ n3_ n4_ n5_ n6_ n7_ n8_
                   have p137 : 0 ≤ (At : Int):=of_decide_eq_true qA9
                   have q137 : At < (l0_4.length : Int):=of_decide_eq_true qA9
                   obtain ⟨ad137,A137_0,c137_0,e137,hx137_0,hl137_0,hi137_0⟩:=at_L2 HR0_4.out At p137 q137
                   have hw137_0:=hx137_0
                   cases e137
                   replace hx137_0:=(HB.out.cell (World.block_lt_of_cell? w _ hx137_0)).trans hx137_0
                   have Ce:=Aside0.mk hi137_0
                   have HC137_0:=Aside0.mk hl137_0
                   clear hi137_0 hl137_0
                   replace p137:=eq_true p137
                   replace q137:=eq_true q137
                   have p138 : 0 ≤ (Ay : Int):=of_decide_eq_true qA9
                   have q138 : Ay < ((rd_L2 l0_4 At).length : Int):=of_decide_eq_true qA9
                   obtain ⟨ad138,A138_0,c138_0,e138,hx138_0,hl138_0,hi138_0⟩:=at_L1 Ce.out Ay p138 q138
                   have hw138_0:=hx138_0
                   cases e138
                   replace hx138_0:=(HB.out.cell (World.block_lt_of_cell? w _ hx138_0)).trans hx138_0
                   have Cf:=Aside0.mk hi138_0
                   have HC138_0:=Aside0.mk hl138_0
                   clear hi138_0 hl138_0
                   replace p138:=eq_true p138
                   replace q138:=eq_true q138
                   refine start_ (n:=16) (S:=fun w'=>w'.cell? ⟨Ae,0,none⟩ = some (.int .i64 a1_0) ∧ w'.cell? ⟨Ae,1,none⟩ = some (.int .i64 a1_1) ∧ w'.cell? ⟨Ae,2,none⟩ = some (.int .i64 a1_2) ∧ w'.cell? ⟨Ae,3,none⟩ = some (.slice A1_3 l1_3.length c1_3) ∧ w'.cell? ⟨Ae,4,none⟩ = some (.slice A1_4 l1_4.length c1_4) ∧ w'.cell? ⟨Ae,5,none⟩ = some (.int .i64 a1_5) ∧ w'.cell? ⟨Ac,0,none⟩ = some (.int .i64 a0_0) ∧ w'.cell? ⟨Ac,1,none⟩ = some (.int .i64 a0_1) ∧ w'.cell? ⟨Ac,2,none⟩ = some (.int .i64 a0_2) ∧ w'.cell? ⟨Ac,3,none⟩ = some (.slice A0_3 l0_3.length c0_3) ∧ w'.cell? ⟨Ac,4,none⟩ = some (.slice (some ad137) l0_4.length c0_4) ∧ w'.cell? ⟨Ac,5,none⟩ = some (.int .i64 a0_5) ∧ w'.cell? (ad137.add (At).toNat) = some (.slice (some ad138) (rd_L2 l0_4 At).length c137_0) ∧ w'.cell? (ad138.add (Ay).toNat) = some (.slice A138_0 (rd_L1 (rd_L2 l0_4 At) Ay).length c138_0)) (ds:=[]) #[false,false,false,false,false,false,false,false,false,false,false,false,false,false,false,false] (by kernel_rfl) rfl rfl ⟨(blk_cell Ab.out 0).trans rfl,(blk_cell Ab.out 1).trans rfl,(blk_cell Ab.out 2).trans rfl,(blk_cell Ab.out 3).trans rfl,(blk_cell Ab.out 4).trans rfl,(blk_cell Ab.out 5).trans rfl,(blk_cell Aa.out 0).trans rfl,(blk_cell Aa.out 1).trans rfl,(blk_cell Aa.out 2).trans rfl,(blk_cell Aa.out 3).trans rfl,(blk_cell Aa.out 4).trans rfl,(blk_cell Aa.out 5).trans rfl,((HB.out.cell (World.block_lt_of_cell? w _ hw137_0)).trans hw137_0),((HB.out.cell (World.block_lt_of_cell? w _ hw138_0)).trans hw138_0)⟩ (fun hHeld=>?_);refine with_tabW turner_Then.tab23 turner_Then.bits23 (fun HT_ HW_=>?_)
                   generalize wr.drew = w57 at Av Aq Af Ad Aa Ab Ai Aj HB Ce Cf hx137_0 hx138_0 hHeld ⊢
                   refine pure_ (i:=1) (N:=some 76) (v:=?_) (a':=?_) #[false,true,false,false,false,false,false,false,false,false,false,false,false,false,false,false] rfl rfl (any_of HT_.out (by kernel_rfl)) (fun _ _ _ h=>h) (Or.inl ⟨by rfl,?_⟩) ?_ ?_
                   rotate_left
                   ·intro w'
                    go_simp
                    with_reducible rfl
                   rotate_left
                   ·simp only [Act.put,List.setIfInBounds_toArray,List.set_cons_zero,List.set_cons_succ,i64_w,i32_w]
                    rfl
                   refine pure_ (i:=2) (N:=some 77) (v:=?_) (a':=?_) #[false,true,true,false,false,false,false,false,false,false,false,false,false,false,false,false] rfl rfl (any_of HT_.out (by kernel_rfl)) (fun _ _ _ h=>h) (Or.inl ⟨by rfl,?_⟩) ?_ ?_
                   rotate_left
                   ·intro w'
                    go_simp
                    with_reducible rfl
                   rotate_left
                   ·simp only [Act.put,List.setIfInBounds_toArray,List.set_cons_zero,List.set_cons_succ,i64_w,i32_w]
                    rfl
                   refine pure_ (i:=4) (N:=some 79) (v:=?_) (a':=?_) #[false,true,true,false,true,false,false,false,false,false,false,false,false,false,false,false] rfl rfl (any_of HT_.out (by kernel_rfl)) (fun _ _ _ h=>h) (Or.inl ⟨by rfl,?_⟩) ?_ ?_
                   rotate_left
                   ·intro w'
                    go_simp
                    with_reducible rfl
                   rotate_left
                   ·simp only [Act.put,List.setIfInBounds_toArray,List.set_cons_zero,List.set_cons_succ,i64_w,i32_w]
                    rfl
                   refine pure_ (i:=7) (N:=some 82) (v:=?_) (a':=?_) #[false,true,true,false,true,false,false,true,false,false,false,false,false,false,false,false] rfl rfl (any_of HT_.out (by kernel_rfl)) (fun _ _ _ h=>h) (Or.inl ⟨by rfl,?_⟩) ?_ ?_
                   rotate_left
                   ·intro w'
                    go_simp
                    with_reducible rfl
                   rotate_left
                   ·simp only [Act.put,List.setIfInBounds_toArray,List.set_cons_zero,List.set_cons_succ,i64_w,i32_w]
                    rfl
                   refine take_ (i:=0) (N:=some 75) (v:=?_) (a':=?_) #[true,true,true,false,true,false,false,true,false,false,false,false,false,false,false,false] rfl rfl (take_ofW HT_.out HW_.out (by kernel_rfl)) (fun _ _ _ h=>h) (Or.inl ⟨by rfl,?_⟩) hHeld ?_ ?_
                   rotate_left
                   ·rintro w' ⟨s0,s1,s2,s3,s4,s5,s6,s7,s8,s9,s10,s11,s12,s13⟩
                    go_simp
                    with_reducible rfl
                   rotate_left
                   ·simp only [Act.put,List.setIfInBounds_toArray,List.set_cons_zero,List.set_cons_succ,i64_w,i32_w]
                    rfl
                   refine take_ (i:=3) (N:=some 78) (v:=?_) (a':=?_) #[true,true,true,true,true,false,false,true,false,false,false,false,false,false,false,false] rfl rfl (take_ofW HT_.out HW_.out (by kernel_rfl)) (fun _ _ _ h=>h) (Or.inl ⟨by rfl,?_⟩) hHeld ?_ ?_
                   rotate_left
                   ·rintro w' ⟨s0,s1,s2,s3,s4,s5,s6,s7,s8,s9,s10,s11,s12,s13⟩
                    go_simp
                    with_reducible rfl
                   rotate_left
                   ·simp only [Act.put,List.setIfInBounds_toArray,List.set_cons_zero,List.set_cons_succ,i64_w,i32_w]
                    rfl
                   refine pure_ (i:=5) (N:=some 80) (v:=?_) (a':=?_) #[true,true,true,true,true,true,false,true,false,false,false,false,false,false,false,false] rfl rfl (any_of HT_.out (by kernel_rfl)) (fun _ _ _ h=>h) (Or.inl ⟨by rfl,?_⟩) ?_ ?_
                   rotate_left
                   ·intro w'
                    go_simp
                    with_reducible rfl
                   rotate_left
                   ·simp only [Act.put,List.setIfInBounds_toArray,List.set_cons_zero,List.set_cons_succ,i64_w,i32_w]
                    rfl
                   refine take_ (i:=6) (N:=some 81) (v:=?_) (a':=?_) #[true,true,true,true,true,true,true,true,false,false,false,false,false,false,false,false] rfl rfl (take_ofW HT_.out HW_.out (by kernel_rfl)) (fun _ _ _ h=>h) (Or.inl ⟨by rfl,?_⟩) hHeld ?_ ?_
                   rotate_left
                   ·rintro w' ⟨s0,s1,s2,s3,s4,s5,s6,s7,s8,s9,s10,s11,s12,s13⟩
                    go_simp
                    with_reducible rfl
                   rotate_left
                   ·simp only [Act.put,List.setIfInBounds_toArray,List.set_cons_zero,List.set_cons_succ,i64_w,i32_w]
                    rfl
                   refine pure_ (i:=8) (N:=some 83) (v:=?_) (a':=?_) #[true,true,true,true,true,true,true,true,true,false,false,false,false,false,false,false] rfl rfl (any_of HT_.out (by kernel_rfl)) (fun _ _ _ h=>h) (Or.inl ⟨by rfl,?_⟩) ?_ ?_
                   rotate_left
                   ·intro w'
                    go_simp
                    with_reducible rfl
                   rotate_left
                   ·simp only [Act.put,List.setIfInBounds_toArray,List.set_cons_zero,List.set_cons_succ,i64_w,i32_w]
                    rfl
                   refine take_ (i:=9) (N:=some 84) (v:=?_) (a':=?_) #[true,true,true,true,true,true,true,true,true,true,false,false,false,false,false,false] rfl rfl (take_ofW HT_.out HW_.out (by kernel_rfl)) (fun _ _ _ h=>h) (Or.inl ⟨by rfl,?_⟩) hHeld ?_ ?_
                   rotate_left
                   ·rintro w' ⟨s0,s1,s2,s3,s4,s5,s6,s7,s8,s9,s10,s11,s12,s13⟩
                    go_simp
                    with_reducible rfl
                   rotate_left
                   ·simp only [Act.put,List.setIfInBounds_toArray,List.set_cons_zero,List.set_cons_succ,i64_w,i32_w]
                    rfl
                   refine one_ (i:=10) (N:=some 85) #[true,true,true,true,true,true,true,true,true,true,true,false,false,false,false,false] rfl rfl (one_of HT_.out (by kernel_rfl)) (by decide) (fun K hK=>?_)
                   refine goes_ Try.func10 (by kernel_rfl) rfl #[.agg #[.int .i64 a1_0,.int .i64 a1_1,.int .i64 a1_2,.slice A1_3 l1_3.length c1_3,.slice A1_4 l1_4.length c1_4,.int .i64 a1_5],.int .i64 Bh,.slice A138_0 (rd_L1 (rd_L2 l0_4 At) Ay).length c138_0] (by rfl) rfl rfl qA8 ?_
                   with_reducible refine (turner_write.calls k3 a1_0 a1_1 a1_2 _ _ l1_3 _ _ l1_4 a1_5 Bh _ _ (rd_L1 (rd_L2 l0_4 At) Ay) Bm Cl _ ?side1 ?side2 ?side3 ?side4 ?side5 ?side6 A55.out).mono ?_
                   (case side1=>repeat (first|exact (Kd.C_below HR1_3.out HB.out)|(with_reducible refine Kd.C_alloc ?_ _)|(with_reducible refine Kd.C_drewN ?_ _)|(with_reducible refine Kd.C_drew ?_)))
                   (case side2=>exact HC1_3.out)
                   (case side3=>repeat (first|exact (Kd.C_below HR1_4.out HB.out)|(with_reducible refine Kd.C_alloc ?_ _)|(with_reducible refine Kd.C_drewN ?_ _)|(with_reducible refine Kd.C_drew ?_)))
                   (case side4=>exact HC1_4.out)
                   (case side5=>repeat (first|exact (Kd.C_below Cf.out HB.out)|(with_reducible refine Kd.C_alloc ?_ _)|(with_reducible refine Kd.C_drewN ?_ _)|(with_reducible refine Kd.C_drew ?_)))
                   (case side6=>exact HC138_0.out)
                   rintro e w58 ⟨v140,rfl,ho0,hb⟩
                   refine ⟨_,rfl,?_⟩
                   have n0_:=Aside0.mk (Kd.R_elder' (qR Av.out) (Kd.R_base ho0) hb)
                   have n1_:=Aside0.mk (Kd.N_elder' (qN Aq.out) (Kd.R_base ho0) hb)
                   have n2_:=Aside0.mk (Kd.N_elder' (qN Af.out) (Kd.R_base ho0) hb)
                   have n3_:=Aside0.mk (Kd.N_elder' (qN Ad.out) (Kd.R_base ho0) hb)
                   have n4_:=Aside0.mk (Kd.R_lower (Kd.R_new' (Kd.R_newM (M:=fun k_=>(w.heap.size ≤ k_)) ho0 (below_size qB7) (fun k_ h_=>h_)) (Kd.R_lt (qR Av.out))) (below_size qB7))
                   have n5_:=Aside0.mk (blk_below (qD Aa.out) hb)
                   have n6_:=Aside0.mk (blk_below (qD Ab.out) hb)
                   have n7_:=Aside0.mk (blk_below (qD Ai.out) hb)
                   have n8_:=Aside0.mk (blk_below (qD Aj.out) hb)
                   have n9_:=Aside0.mk (below_step qB7 hb)
                   clear Av
                   clear Aq
                   clear Af
                   clear Ad
                   clear Aa
                   clear Ab
                   clear Ai
                   clear Aj
                   clear HB
                   have Av:=n0_
                   have Aq:=n1_
                   have Af:=n2_
                   have Ad:=n3_
                   have A9:=n4_
                   have Aa:=n5_
                   have Ab:=n6_
                   have Ai:=n7_
                   have Aj:=n8_
                   have HB:=n9_
                   clear n0_ n1_ n2_ n3_ n4_ n5_ n6_ n7_ n8_ n9_
                   (try clear hb)
                   (try clear hb2)
                   (try clear hk)
                   (try clear hi)
                   (try clear ho0)
                   refine hK.out _ _ ⟨(blk_cell Ab.out 0).trans rfl,(blk_cell Ab.out 1).trans rfl,(blk_cell Ab.out 2).trans rfl,(blk_cell Ab.out 3).trans rfl,(blk_cell Ab.out 4).trans rfl,(blk_cell Ab.out 5).trans rfl,(blk_cell Aa.out 0).trans rfl,(blk_cell Aa.out 1).trans rfl,(blk_cell Aa.out 2).trans rfl,(blk_cell Aa.out 3).trans rfl,(blk_cell Aa.out 4).trans rfl,(blk_cell Aa.out 5).trans rfl,((HB.out.cell (World.block_lt_of_cell? w _ hw137_0)).trans hw137_0),((HB.out.cell (World.block_lt_of_cell? w _ hw138_0)).trans hw138_0)⟩ (fun hHeld=>?_)
                   clear hK K
                   refine norm_ (a':=?_) ?_ ?_
                   rotate_left
                   ·show Act.put _ (some 85) _ = _
                    simp only [Act.put,List.setIfInBounds_toArray,List.set_cons_zero,List.set_cons_succ,i64_w,i32_w]
                    rfl
                   refine pure_ (i:=11) (N:=some 74) (v:=?_) (a':=?_) #[true,true,true,true,true,true,true,true,true,true,true,true,false,false,false,false] rfl rfl (any_of HT_.out (by kernel_rfl)) (fun _ _ _ h=>h) (Or.inl ⟨by rfl,?_⟩) ?_ ?_
                   rotate_left
                   ·intro w'
                    go_simp
                    with_reducible rfl
                   rotate_left
                   ·simp only [Act.put,List.setIfInBounds_toArray,List.set_cons_zero,List.set_cons_succ,i64_w,i32_w]
                    rfl
                   refine pure_ (i:=12) (N:=some 86) (v:=?_) (a':=?_) #[true,true,true,true,true,true,true,true,true,true,true,true,true,false,false,false] rfl rfl (any_of HT_.out (by kernel_rfl)) (fun _ _ _ h=>h) (Or.inl ⟨by rfl,?_⟩) ?_ ?_
                   rotate_left
                   ·intro w'
                    go_simp
                    with_reducible rfl
                   rotate_left
                   ·simp only [Act.put,List.setIfInBounds_toArray,List.set_cons_zero,List.set_cons_succ,i64_w,i32_w]
                    rfl
                   refine pure_ (i:=13) (N:=some 87) (v:=?_) (a':=?_) #[true,true,true,true,true,true,true,true,true,true,true,true,true,true,false,false] rfl rfl (any_of HT_.out (by kernel_rfl)) (fun _ _ _ h=>h) (Or.inl ⟨by rfl,?_⟩) ?_ ?_
                   rotate_left
                   ·intro w'
                    go_simp
                    with_reducible rfl
                   rotate_left
                   ·simp only [Act.put,List.setIfInBounds_toArray,List.set_cons_zero,List.set_cons_succ,i64_w,i32_w]
                    rfl
                   refine pure_ (i:=14) (N:=some 14) (v:=?_) (a':=?_) #[true,true,true,true,true,true,true,true,true,true,true,true,true,true,true,false] rfl rfl (any_of HT_.out (by kernel_rfl)) (fun _ _ _ h=>h) (Or.inl ⟨by rfl,?_⟩) ?_ ?_
                   rotate_left
                   ·intro w'
                    go_simp
                    with_reducible rfl
                   rotate_left
                   ·simp only [Act.put,List.setIfInBounds_toArray,List.set_cons_zero,List.set_cons_succ,i64_w,i32_w]
                    rfl
                   refine pure_ (i:=15) (N:=some 15) (v:=?_) (a':=?_) #[true,true,true,true,true,true,true,true,true,true,true,true,true,true,true,true] rfl rfl (any_of HT_.out (by kernel_rfl)) (fun _ _ _ h=>h) (Or.inl ⟨by rfl,?_⟩) ?_ ?_
                   rotate_left
                   ·intro w'
                    go_simp
                    with_reducible rfl
                   rotate_left
                   ·simp only [Act.put,List.setIfInBounds_toArray,List.set_cons_zero,List.set_cons_succ,i64_w,i32_w]
                    rfl
                   refine done_ (done_of HT_.out (by kernel_rfl)) ?_
                   obtain ⟨Ao59,co59,eo59⟩:=Kd.R_slice A9.out
                   subst eo59
                   have hnb60:=Bb.out
                   have hnc60:=Ba.out
                   have hnb61:=Bd.out
                   have hnc61:=Bc.out
                   have hnb62:=A8.out
                   have hnc62:=B0.out
                   have hcz63_0 : w58.cell? ⟨Ag,0,none⟩ = some (.int .i64 As):=(blk_cell Ai.out 0).trans rfl
                   have hcz63_1 : w58.cell? ⟨Ag,1,none⟩ = some (.int .i64 Ar):=(blk_cell Ai.out 1).trans rfl
                   have hcz63_2 : w58.cell? ⟨Ag,2,none⟩ = some (.int .i64 Ap):=(blk_cell Ai.out 2).trans rfl
                   have hcz63_3 : w58.cell? ⟨Ag,3,none⟩ = some (.slice none 0 0):=(blk_cell Ai.out 3).trans rfl
                   have hcz63_4 : w58.cell? ⟨Ag,4,none⟩ = some (.slice none 0 0):=(blk_cell Ai.out 4).trans rfl
                   have hcz63_5 : w58.cell? ⟨Ag,5,none⟩ = some (.int .i64 Ao):=(blk_cell Ai.out 5).trans rfl
                   have hfz63_0:=blk_frozen Ai.out 0
                   have hfz63_1:=blk_frozen Ai.out 1
                   have hfz63_2:=blk_frozen Ai.out 2
                   have hfz63_3:=blk_frozen Ai.out 3
                   have hfz63_4:=blk_frozen Ai.out 4
                   have hfz63_5:=blk_frozen Ai.out 5
                   try go_wp2
                   refine bodyPost_ret (results_ct rfl _ _ Ag 25 #[.int .i64 0,.int .i64 0,.int .i64 0,.slice none 0 0,.slice none 0 0,.int .i64 0] (0,0) _ rfl (by (with_reducible repeat (first|refine blk_drewN ?_ _|refine blk_drew ?_|refine blk_alloc ?_ _));refine blk_put (cs:=#[.int .i64 0,.int .i64 0,.int .i64 0,.slice none 0 0,.slice none 0 0,.int .i64 Ao]) ?_ 5 _ rfl;(with_reducible repeat (first|refine blk_drewN ?_ _|refine blk_drew ?_|refine blk_alloc ?_ _));refine blk_put (cs:=#[.int .i64 0,.int .i64 0,.int .i64 0,.slice none 0 0,.slice none 0 0,.int .i64 Ao]) ?_ 4 _ rfl;(with_reducible repeat (first|refine blk_drewN ?_ _|refine blk_drew ?_|refine blk_alloc ?_ _));refine blk_put (cs:=#[.int .i64 0,.int .i64 0,.int .i64 0,.slice none 0 0,.slice none 0 0,.int .i64 Ao]) ?_ 3 _ rfl;(with_reducible repeat (first|refine blk_drewN ?_ _|refine blk_drew ?_|refine blk_alloc ?_ _));refine blk_put (cs:=#[.int .i64 0,.int .i64 0,.int .i64 Ap,.slice none 0 0,.slice none 0 0,.int .i64 Ao]) ?_ 2 _ rfl;(with_reducible repeat (first|refine blk_drewN ?_ _|refine blk_drew ?_|refine blk_alloc ?_ _));refine blk_put (cs:=#[.int .i64 0,.int .i64 Ar,.int .i64 Ap,.slice none 0 0,.slice none 0 0,.int .i64 Ao]) ?_ 1 _ rfl;(with_reducible repeat (first|refine blk_drewN ?_ _|refine blk_drew ?_|refine blk_alloc ?_ _));refine blk_put (cs:=#[.int .i64 As,.int .i64 Ar,.int .i64 Ap,.slice none 0 0,.slice none 0 0,.int .i64 Ao]) ?_ 0 _ rfl;(with_reducible repeat (first|refine blk_drewN ?_ _|refine blk_drew ?_|refine blk_alloc ?_ _));exact Ai.out) Try.underlying25 rfl (by kernel_rfl)) rfl ?_
                   exact ⟨_,_,by first|rfl|(simp [errW_none,errW_some] <;> rfl)|(simp [*,errW_none,errW_some] <;> rfl),by first|exact Kd.S_nil _ _ _ _ _|exact Kd.N_nil _ _ _ _ _|exact Kd.V_nil _ _ _ _ _|exact Kd.Q_nil _ _ _ _ _|exact Kd.R_nil _ _ _ _ _,by first|exact Kd.R_nil _ _ _ _ _|exact Kd.N_nil _ _ _ _ _|exact Kd.V_nil _ _ _ _ _|exact Kd.Q_nil _ _ _ _ _|exact Kd.S_nil _ _ _ _ _,by repeat (first|(with_reducible first|exact HB.out|apply below_alloc|apply pw_below_drewN|apply below_drew1|refine below_set ?_ Bs.out|refine below_set ?_ Bt.out|refine below_set ?_ Bu.out|refine below_set ?_ Ck.out)|exact HB.out)⟩
                  ·rw [if_neg c56] at H
                   have c56b0 : decide (4 < (Bm.length : Int)) = false:=decide_eq_false c56
                   have c56b1 : decide (4 < Bm.length) = false:=decide_eq_false (by omega)
                   clear c56
                   by_cases c64 : At < (l0_3.length : Int)
                   ·rw [if_pos c64] at H
                    have c64b0 : decide (At < (l0_3.length : Int)) = true:=decide_eq_true c64
                    clear c64
                    by_cases c65 : Ay < ((rd_L1 l0_3 At).length : Int)
                    ·rw [if_pos c65] at H
                     have c65b0 : decide (Ay < ((rd_L1 l0_3 At).length : Int)) = true:=decide_eq_true c65
                     clear c65
                     obtain ⟨Be,hy145⟩ : ∃ y_ : List Int,y_ = (([wrap64 ((wrap64 ((rd (rd_L1 l0_3 At) Ay) * a1_0)) + Cl)] : List Int)):=⟨_,rfl⟩
                     replace H : (if Az.length + Be.length < 17592186044416 then ((some (([Bm] : List (List Int)) : List (List Int))).bind fun B4=>(if Au.length + B4.length < 5864062014805 then (turner_Then.l2 k3 At Bh (Az ++ Be) (Au ++ B4) a0_0 At a1_0 Bh a0_1 (wrap64 (Ay + 1)) a0_0 a0_1 a0_2 l0_3 l0_4 a0_5 a1_0 a1_1 a1_2 l1_3 l1_4 a1_5 (wrap64 (a0_0 * a1_0)) a0_1 a1_2 Al Ah (wrap64 ((wrap64 (a0_5 * a1_0)) + a1_5))) else (none))) else (none)) = some (r1,r2,r3,r4,r5,r6,r7):=by first|(rw [hy145];with_reducible exact H)|(have H2_:=(Option.bind_some _ _).symm.trans H;rw [hy145];with_reducible exact H2_)|(have H2_:=(Option.bind_some _ _).symm.trans H;with_reducible exact H2_)|with_reducible exact H|(rw [hy145];exact H)|exact H
                     have Ny145:=Aside0.mk hy145
                     clear hy145
                     by_cases c66 : Az.length + Be.length < 17592186044416
                     ·rw [if_pos c66] at H
                      have LMc66:=Aside0.mk c66
                      clear c66
                      obtain ⟨y148,hy148⟩ : ∃ y_ : List Int,y_ = (Az ++ Be):=⟨_,rfl⟩
                      replace H : ((some (([Bm] : List (List Int)) : List (List Int))).bind fun B4=>(if Au.length + B4.length < 5864062014805 then (turner_Then.l2 k3 At Bh y148 (Au ++ B4) a0_0 At a1_0 Bh a0_1 (wrap64 (Ay + 1)) a0_0 a0_1 a0_2 l0_3 l0_4 a0_5 a1_0 a1_1 a1_2 l1_3 l1_4 a1_5 (wrap64 (a0_0 * a1_0)) a0_1 a1_2 Al Ah (wrap64 ((wrap64 (a0_5 * a1_0)) + a1_5))) else (none))) = some (r1,r2,r3,r4,r5,r6,r7):=by first|(rw [hy148];with_reducible exact H)|(have H2_:=(Option.bind_some _ _).symm.trans H;rw [hy148];with_reducible exact H2_)|(have H2_:=(Option.bind_some _ _).symm.trans H;with_reducible exact H2_)|with_reducible exact H|(rw [hy148];exact H)|exact H
                      have Ny148:=Aside0.mk hy148
                      clear hy148
                      obtain ⟨B4,hy151⟩ : ∃ y_ : List (List Int),y_ = (([Bm] : List (List Int))):=⟨_,rfl⟩
                      replace H : (if Au.length + B4.length < 5864062014805 then (turner_Then.l2 k3 At Bh y148 (Au ++ B4) a0_0 At a1_0 Bh a0_1 (wrap64 (Ay + 1)) a0_0 a0_1 a0_2 l0_3 l0_4 a0_5 a1_0 a1_1 a1_2 l1_3 l1_4 a1_5 (wrap64 (a0_0 * a1_0)) a0_1 a1_2 Al Ah (wrap64 ((wrap64 (a0_5 * a1_0)) + a1_5))) else (none)) = some (r1,r2,r3,r4,r5,r6,r7):=by first|(rw [hy151];with_reducible exact H)|(have H2_:=(Option.bind_some _ _).symm.trans H;rw [hy151];with_reducible exact H2_)|(have H2_:=(Option.bind_some _ _).symm.trans H;with_reducible exact H2_)|with_reducible exact H|(rw [hy151];exact H)|exact H
                      have Ny151:=Aside0.mk hy151
                      clear hy151
                      by_cases c67 : Au.length + B4.length < 5864062014805
                      ·rw [if_pos c67] at H
                       have LMc67:=Aside0.mk c67
                       clear c67
                       obtain ⟨y154,hy154⟩ : ∃ y_ : List (List Int),y_ = (Au ++ B4):=⟨_,rfl⟩
                       replace H : (turner_Then.l2 k3 At Bh y148 y154 a0_0 At a1_0 Bh a0_1 (wrap64 (Ay + 1)) a0_0 a0_1 a0_2 l0_3 l0_4 a0_5 a1_0 a1_1 a1_2 l1_3 l1_4 a1_5 (wrap64 (a0_0 * a1_0)) a0_1 a1_2 Al Ah (wrap64 ((wrap64 (a0_5 * a1_0)) + a1_5))) = some (r1,r2,r3,r4,r5,r6,r7):=by first|(rw [hy154];with_reducible exact H)|(have H2_:=(Option.bind_some _ _).symm.trans H;rw [hy154];with_reducible exact H2_)|(have H2_:=(Option.bind_some _ _).symm.trans H;with_reducible exact H2_)|with_reducible exact H|(rw [hy154];exact H)|exact H
                       have Ny154:=Aside0.mk hy154
                       clear hy154
                       have H':=Aside0.mk H
                       clear H
                       try go_wp2
                       have n0_:=Aside0.mk (Kd.R_drew Av.out)
                       have n1_:=Aside0.mk (Kd.N_drew Aq.out)
                       have n2_:=Aside0.mk (Kd.N_drew Af.out)
                       have n3_:=Aside0.mk (Kd.N_drew Ad.out)
                       have n4_:=Aside0.mk (blk_drew Aa.out)
                       have n5_:=Aside0.mk (blk_drew Ab.out)
                       have n6_:=Aside0.mk (blk_drew Ai.out)
                       have n7_:=Aside0.mk (blk_drew Aj.out)
                       have n8_:=Aside0.mk (below_drew1 HB.out)
                       clear Av
                       clear Aq
                       clear Af
                       clear Ad
                       clear Aa
                       clear Ab
                       clear Ai
                       clear Aj
                       clear HB
                       have Av:=n0_
                       have Aq:=n1_
                       have Af:=n2_
                       have Ad:=n3_
                       have Aa:=n4_
                       have Ab:=n5_
                       have Ai:=n6_
                       have Aj:=n7_
                       have HB:=n8_
                       clear n0_ n1_ n2_ n3_ n4_ n5_ n6_ n7_ n8_
                       have p137 : 0 ≤ (At : Int):=of_decide_eq_true qA9
                       have q137 : At < (l0_4.length : Int):=of_decide_eq_true qA9
                       obtain ⟨ad137,A137_0,c137_0,e137,hx137_0,hl137_0,hi137_0⟩:=at_L2 HR0_4.out At p137 q137
                       have hw137_0:=hx137_0
                       cases e137
                       replace hx137_0:=(HB.out.cell (World.block_lt_of_cell? w _ hx137_0)).trans hx137_0
                       have Ce:=Aside0.mk hi137_0
                       have HC137_0:=Aside0.mk hl137_0
                       clear hi137_0 hl137_0
                       replace p137:=eq_true p137
                       replace q137:=eq_true q137
                       have p138 : 0 ≤ (Ay : Int):=of_decide_eq_true qA9
                       have q138 : Ay < ((rd_L2 l0_4 At).length : Int):=of_decide_eq_true qA9
                       obtain ⟨ad138,A138_0,c138_0,e138,hx138_0,hl138_0,hi138_0⟩:=at_L1 Ce.out Ay p138 q138
                       have hw138_0:=hx138_0
                       cases e138
                       replace hx138_0:=(HB.out.cell (World.block_lt_of_cell? w _ hx138_0)).trans hx138_0
                       have Cf:=Aside0.mk hi138_0
                       have HC138_0:=Aside0.mk hl138_0
                       clear hi138_0 hl138_0
                       replace p138:=eq_true p138
                       replace q138:=eq_true q138
                       refine start_ (n:=16) (S:=fun w'=>w'.cell? ⟨Ae,0,none⟩ = some (.int .i64 a1_0) ∧ w'.cell? ⟨Ae,1,none⟩ = some (.int .i64 a1_1) ∧ w'.cell? ⟨Ae,2,none⟩ = some (.int .i64 a1_2) ∧ w'.cell? ⟨Ae,3,none⟩ = some (.slice A1_3 l1_3.length c1_3) ∧ w'.cell? ⟨Ae,4,none⟩ = some (.slice A1_4 l1_4.length c1_4) ∧ w'.cell? ⟨Ae,5,none⟩ = some (.int .i64 a1_5) ∧ w'.cell? ⟨Ac,0,none⟩ = some (.int .i64 a0_0) ∧ w'.cell? ⟨Ac,1,none⟩ = some (.int .i64 a0_1) ∧ w'.cell? ⟨Ac,2,none⟩ = some (.int .i64 a0_2) ∧ w'.cell? ⟨Ac,3,none⟩ = some (.slice A0_3 l0_3.length c0_3) ∧ w'.cell? ⟨Ac,4,none⟩ = some (.slice (some ad137) l0_4.length c0_4) ∧ w'.cell? ⟨Ac,5,none⟩ = some (.int .i64 a0_5) ∧ w'.cell? (ad137.add (At).toNat) = some (.slice (some ad138) (rd_L2 l0_4 At).length c137_0) ∧ w'.cell? (ad138.add (Ay).toNat) = some (.slice A138_0 (rd_L1 (rd_L2 l0_4 At) Ay).length c138_0)) (ds:=[]) #[false,false,false,false,false,false,false,false,false,false,false,false,false,false,false,false] (by kernel_rfl) rfl rfl ⟨(blk_cell Ab.out 0).trans rfl,(blk_cell Ab.out 1).trans rfl,(blk_cell Ab.out 2).trans rfl,(blk_cell Ab.out 3).trans rfl,(blk_cell Ab.out 4).trans rfl,(blk_cell Ab.out 5).trans rfl,(blk_cell Aa.out 0).trans rfl,(blk_cell Aa.out 1).trans rfl,(blk_cell Aa.out 2).trans rfl,(blk_cell Aa.out 3).trans rfl,(blk_cell Aa.out 4).trans rfl,(blk_cell Aa.out 5).trans rfl,((HB.out.cell (World.block_lt_of_cell? w _ hw137_0)).trans hw137_0),((HB.out.cell (World.block_lt_of_cell? w _ hw138_0)).trans hw138_0)⟩ (fun hHeld=>?_);refine with_tabW turner_Then.tab23 turner_Then.bits23 (fun HT_ HW_=>?_)
                       generalize wr.drew = w68 at Av Aq Af Ad Aa Ab Ai Aj HB Ce Cf hx137_0 hx138_0 hHeld ⊢
                       refine pure_ (i:=1) (N:=some 76) (v:=?_) (a':=?_) #[false,true,false,false,false,false,false,false,false,false,false,false,false,false,false,false] rfl rfl (any_of HT_.out (by kernel_rfl)) (fun _ _ _ h=>h) (Or.inl ⟨by rfl,?_⟩) ?_ ?_
                       rotate_left
                       ·intro w'
                        go_simp
                        with_reducible rfl
                       rotate_left
                       ·simp only [Act.put,List.setIfInBounds_toArray,List.set_cons_zero,List.set_cons_succ,i64_w,i32_w]
                        rfl
                       refine pure_ (i:=2) (N:=some 77) (v:=?_) (a':=?_) #[false,true,true,false,false,false,false,false,false,false,false,false,false,false,false,false] rfl rfl (any_of HT_.out (by kernel_rfl)) (fun _ _ _ h=>h) (Or.inl ⟨by rfl,?_⟩) ?_ ?_
                       rotate_left
                       ·intro w'
                        go_simp
                        with_reducible rfl
                       rotate_left
                       ·simp only [Act.put,List.setIfInBounds_toArray,List.set_cons_zero,List.set_cons_succ,i64_w,i32_w]
                        rfl
                       refine pure_ (i:=4) (N:=some 79) (v:=?_) (a':=?_) #[false,true,true,false,true,false,false,false,false,false,false,false,false,false,false,false] rfl rfl (any_of HT_.out (by kernel_rfl)) (fun _ _ _ h=>h) (Or.inl ⟨by rfl,?_⟩) ?_ ?_
                       rotate_left
                       ·intro w'
                        go_simp
                        with_reducible rfl
                       rotate_left
                       ·simp only [Act.put,List.setIfInBounds_toArray,List.set_cons_zero,List.set_cons_succ,i64_w,i32_w]
                        rfl
                       refine pure_ (i:=7) (N:=some 82) (v:=?_) (a':=?_) #[false,true,true,false,true,false,false,true,false,false,false,false,false,false,false,false] rfl rfl (any_of HT_.out (by kernel_rfl)) (fun _ _ _ h=>h) (Or.inl ⟨by rfl,?_⟩) ?_ ?_
                       rotate_left
                       ·intro w'
                        go_simp
                        with_reducible rfl
                       rotate_left
                       ·simp only [Act.put,List.setIfInBounds_toArray,List.set_cons_zero,List.set_cons_succ,i64_w,i32_w]
                        rfl
                       refine take_ (i:=0) (N:=some 75) (v:=?_) (a':=?_) #[true,true,true,false,true,false,false,true,false,false,false,false,false,false,false,false] rfl rfl (take_ofW HT_.out HW_.out (by kernel_rfl)) (fun _ _ _ h=>h) (Or.inl ⟨by rfl,?_⟩) hHeld ?_ ?_
                       rotate_left
                       ·rintro w' ⟨s0,s1,s2,s3,s4,s5,s6,s7,s8,s9,s10,s11,s12,s13⟩
                        go_simp
                        with_reducible rfl
                       rotate_left
                       ·simp only [Act.put,List.setIfInBounds_toArray,List.set_cons_zero,List.set_cons_succ,i64_w,i32_w]
                        rfl
                       refine take_ (i:=3) (N:=some 78) (v:=?_) (a':=?_) #[true,true,true,true,true,false,false,true,false,false,false,false,false,false,false,false] rfl rfl (take_ofW HT_.out HW_.out (by kernel_rfl)) (fun _ _ _ h=>h) (Or.inl ⟨by rfl,?_⟩) hHeld ?_ ?_
                       rotate_left
                       ·rintro w' ⟨s0,s1,s2,s3,s4,s5,s6,s7,s8,s9,s10,s11,s12,s13⟩
                        go_simp
                        with_reducible rfl
                       rotate_left
                       ·simp only [Act.put,List.setIfInBounds_toArray,List.set_cons_zero,List.set_cons_succ,i64_w,i32_w]
                        rfl
                       refine pure_ (i:=5) (N:=some 80) (v:=?_) (a':=?_) #[true,true,true,true,true,true,false,true,false,false,false,false,false,false,false,false] rfl rfl (any_of HT_.out (by kernel_rfl)) (fun _ _ _ h=>h) (Or.inl ⟨by rfl,?_⟩) ?_ ?_
                       rotate_left
                       ·intro w'
                        go_simp
                        with_reducible rfl
                       rotate_left
                       ·simp only [Act.put,List.setIfInBounds_toArray,List.set_cons_zero,List.set_cons_succ,i64_w,i32_w]
                        rfl
                       refine take_ (i:=6) (N:=some 81) (v:=?_) (a':=?_) #[true,true,true,true,true,true,true,true,false,false,false,false,false,false,false,false] rfl rfl (take_ofW HT_.out HW_.out (by kernel_rfl)) (fun _ _ _ h=>h) (Or.inl ⟨by rfl,?_⟩) hHeld ?_ ?_
                       rotate_left
                       ·rintro w' ⟨s0,s1,s2,s3,s4,s5,s6,s7,s8,s9,s10,s11,s12,s13⟩
                        go_simp
                        with_reducible rfl
                       rotate_left
                       ·simp only [Act.put,List.setIfInBounds_toArray,List.set_cons_zero,List.set_cons_succ,i64_w,i32_w]
                        rfl
                       refine pure_ (i:=8) (N:=some 83) (v:=?_) (a':=?_) #[true,true,true,true,true,true,true,true,true,false,false,false,false,false,false,false] rfl rfl (any_of HT_.out (by kernel_rfl)) (fun _ _ _ h=>h) (Or.inl ⟨by rfl,?_⟩) ?_ ?_
                       rotate_left
                       ·intro w'
                        go_simp
                        with_reducible rfl
                       rotate_left
                       ·simp only [Act.put,List.setIfInBounds_toArray,List.set_cons_zero,List.set_cons_succ,i64_w,i32_w]
                        rfl
                       refine take_ (i:=9) (N:=some 84) (v:=?_) (a':=?_) #[true,true,true,true,true,true,true,true,true,true,false,false,false,false,false,false] rfl rfl (take_ofW HT_.out HW_.out (by kernel_rfl)) (fun _ _ _ h=>h) (Or.inl ⟨by rfl,?_⟩) hHeld ?_ ?_
                       rotate_left
                       ·rintro w' ⟨s0,s1,s2,s3,s4,s5,s6,s7,s8,s9,s10,s11,s12,s13⟩
                        go_simp
                        with_reducible rfl
                       rotate_left
                       ·simp only [Act.put,List.setIfInBounds_toArray,List.set_cons_zero,List.set_cons_succ,i64_w,i32_w]
                        rfl
                       refine one_ (i:=10) (N:=some 85) #[true,true,true,true,true,true,true,true,true,true,true,false,false,false,false,false] rfl rfl (one_of HT_.out (by kernel_rfl)) (by decide) (fun K hK=>?_)
                       refine goes_ Try.func10 (by kernel_rfl) rfl #[.agg #[.int .i64 a1_0,.int .i64 a1_1,.int .i64 a1_2,.slice A1_3 l1_3.length c1_3,.slice A1_4 l1_4.length c1_4,.int .i64 a1_5],.int .i64 Bh,.slice A138_0 (rd_L1 (rd_L2 l0_4 At) Ay).length c138_0] (by rfl) rfl rfl qA8 ?_
                       with_reducible refine (turner_write.calls k3 a1_0 a1_1 a1_2 _ _ l1_3 _ _ l1_4 a1_5 Bh _ _ (rd_L1 (rd_L2 l0_4 At) Ay) Bm Cl _ ?side1 ?side2 ?side3 ?side4 ?side5 ?side6 A55.out).mono ?_
                       (case side1=>repeat (first|exact (Kd.C_below HR1_3.out HB.out)|(with_reducible refine Kd.C_alloc ?_ _)|(with_reducible refine Kd.C_drewN ?_ _)|(with_reducible refine Kd.C_drew ?_)))
                       (case side2=>exact HC1_3.out)
                       (case side3=>repeat (first|exact (Kd.C_below HR1_4.out HB.out)|(with_reducible refine Kd.C_alloc ?_ _)|(with_reducible refine Kd.C_drewN ?_ _)|(with_reducible refine Kd.C_drew ?_)))
                       (case side4=>exact HC1_4.out)
                       (case side5=>repeat (first|exact (Kd.C_below Cf.out HB.out)|(with_reducible refine Kd.C_alloc ?_ _)|(with_reducible refine Kd.C_drewN ?_ _)|(with_reducible refine Kd.C_drew ?_)))
                       (case side6=>exact HC138_0.out)
                       rintro e w69 ⟨v140,rfl,ho0,hb⟩
                       refine ⟨_,rfl,?_⟩
                       have n0_:=Aside0.mk (Kd.R_elder' (qR Av.out) (Kd.R_base ho0) hb)
                       have n1_:=Aside0.mk (Kd.N_elder' (qN Aq.out) (Kd.R_base ho0) hb)
                       have n2_:=Aside0.mk (Kd.N_elder' (qN Af.out) (Kd.R_base ho0) hb)
                       have n3_:=Aside0.mk (Kd.N_elder' (qN Ad.out) (Kd.R_base ho0) hb)
                       have n4_:=Aside0.mk (Kd.R_lower (Kd.R_new' (Kd.R_newM (M:=fun k_=>(w.heap.size ≤ k_)) ho0 (below_size qB7) (fun k_ h_=>h_)) (Kd.R_lt (qR Av.out))) (below_size qB7))
                       have n5_:=Aside0.mk (blk_below (qD Aa.out) hb)
                       have n6_:=Aside0.mk (blk_below (qD Ab.out) hb)
                       have n7_:=Aside0.mk (blk_below (qD Ai.out) hb)
                       have n8_:=Aside0.mk (blk_below (qD Aj.out) hb)
                       have n9_:=Aside0.mk (below_step qB7 hb)
                       clear Av
                       clear Aq
                       clear Af
                       clear Ad
                       clear Aa
                       clear Ab
                       clear Ai
                       clear Aj
                       clear HB
                       have Av:=n0_
                       have Aq:=n1_
                       have Af:=n2_
                       have Ad:=n3_
                       have A9:=n4_
                       have Aa:=n5_
                       have Ab:=n6_
                       have Ai:=n7_
                       have Aj:=n8_
                       have HB:=n9_
                       clear n0_ n1_ n2_ n3_ n4_ n5_ n6_ n7_ n8_ n9_
                       (try clear hb)
                       (try clear hb2)
                       (try clear hk)
                       (try clear hi)
                       (try clear ho0)
                       refine hK.out _ _ ⟨(blk_cell Ab.out 0).trans rfl,(blk_cell Ab.out 1).trans rfl,(blk_cell Ab.out 2).trans rfl,(blk_cell Ab.out 3).trans rfl,(blk_cell Ab.out 4).trans rfl,(blk_cell Ab.out 5).trans rfl,(blk_cell Aa.out 0).trans rfl,(blk_cell Aa.out 1).trans rfl,(blk_cell Aa.out 2).trans rfl,(blk_cell Aa.out 3).trans rfl,(blk_cell Aa.out 4).trans rfl,(blk_cell Aa.out 5).trans rfl,((HB.out.cell (World.block_lt_of_cell? w _ hw137_0)).trans hw137_0),((HB.out.cell (World.block_lt_of_cell? w _ hw138_0)).trans hw138_0)⟩ (fun hHeld=>?_)
                       clear hK K
                       refine norm_ (a':=?_) ?_ ?_
                       rotate_left
                       ·show Act.put _ (some 85) _ = _
                        simp only [Act.put,List.setIfInBounds_toArray,List.set_cons_zero,List.set_cons_succ,i64_w,i32_w]
                        rfl
                       refine pure_ (i:=11) (N:=some 74) (v:=?_) (a':=?_) #[true,true,true,true,true,true,true,true,true,true,true,true,false,false,false,false] rfl rfl (any_of HT_.out (by kernel_rfl)) (fun _ _ _ h=>h) (Or.inl ⟨by rfl,?_⟩) ?_ ?_
                       rotate_left
                       ·intro w'
                        go_simp
                        with_reducible rfl
                       rotate_left
                       ·simp only [Act.put,List.setIfInBounds_toArray,List.set_cons_zero,List.set_cons_succ,i64_w,i32_w]
                        rfl
                       refine pure_ (i:=12) (N:=some 86) (v:=?_) (a':=?_) #[true,true,true,true,true,true,true,true,true,true,true,true,true,false,false,false] rfl rfl (any_of HT_.out (by kernel_rfl)) (fun _ _ _ h=>h) (Or.inl ⟨by rfl,?_⟩) ?_ ?_
                       rotate_left
                       ·intro w'
                        go_simp
                        with_reducible rfl
                       rotate_left
                       ·simp only [Act.put,List.setIfInBounds_toArray,List.set_cons_zero,List.set_cons_succ,i64_w,i32_w]
                        rfl
                       refine pure_ (i:=13) (N:=some 87) (v:=?_) (a':=?_) #[true,true,true,true,true,true,true,true,true,true,true,true,true,true,false,false] rfl rfl (any_of HT_.out (by kernel_rfl)) (fun _ _ _ h=>h) (Or.inl ⟨by rfl,?_⟩) ?_ ?_
                       rotate_left
                       ·intro w'
                        go_simp
                        with_reducible rfl
                       rotate_left
                       ·simp only [Act.put,List.setIfInBounds_toArray,List.set_cons_zero,List.set_cons_succ,i64_w,i32_w]
                        rfl
                       refine pure_ (i:=14) (N:=some 14) (v:=?_) (a':=?_) #[true,true,true,true,true,true,true,true,true,true,true,true,true,true,true,false] rfl rfl (any_of HT_.out (by kernel_rfl)) (fun _ _ _ h=>h) (Or.inl ⟨by rfl,?_⟩) ?_ ?_
                       rotate_left
                       ·intro w'
                        go_simp
                        with_reducible rfl
                       rotate_left
                       ·simp only [Act.put,List.setIfInBounds_toArray,List.set_cons_zero,List.set_cons_succ,i64_w,i32_w]
                        rfl
                       refine pure_ (i:=15) (N:=some 15) (v:=?_) (a':=?_) #[true,true,true,true,true,true,true,true,true,true,true,true,true,true,true,true] rfl rfl (any_of HT_.out (by kernel_rfl)) (fun _ _ _ h=>h) (Or.inl ⟨by rfl,?_⟩) ?_ ?_
                       rotate_left
                       ·intro w'
                        go_simp
                        with_reducible rfl
                       rotate_left
                       ·simp only [Act.put,List.setIfInBounds_toArray,List.set_cons_zero,List.set_cons_succ,i64_w,i32_w]
                        rfl
                       refine done_ (done_of HT_.out (by kernel_rfl)) ?_
                       obtain ⟨Cg,Ch,eo70⟩:=Kd.R_slice A9.out
                       subst eo70
                       obtain ⟨B5,B6,eo71⟩:=Kd.R_slice Av.out
                       subst eo71
                       obtain ⟨Bj,Bk,eo72⟩:=Kd.N_slice Aq.out
                       subst eo72
                       try go_wp2
                       have n0_:=Aside0.mk (Kd.R_drew Av.out)
                       have n1_:=Aside0.mk (Kd.N_drew Aq.out)
                       have n2_:=Aside0.mk (Kd.N_drew Af.out)
                       have n3_:=Aside0.mk (Kd.N_drew Ad.out)
                       have n4_:=Aside0.mk (Kd.R_drew A9.out)
                       have n5_:=Aside0.mk (blk_drew Aa.out)
                       have n6_:=Aside0.mk (blk_drew Ab.out)
                       have n7_:=Aside0.mk (blk_drew Ai.out)
                       have n8_:=Aside0.mk (blk_drew Aj.out)
                       have n9_:=Aside0.mk (below_drew1 HB.out)
                       clear Av
                       clear Aq
                       clear Af
                       clear Ad
                       clear A9
                       clear Aa
                       clear Ab
                       clear Ai
                       clear Aj
                       clear HB
                       have Av:=n0_
                       have Aq:=n1_
                       have Af:=n2_
                       have Ad:=n3_
                       have A9:=n4_
                       have Aa:=n5_
                       have Ab:=n6_
                       have Ai:=n7_
                       have Aj:=n8_
                       have HB:=n9_
                       clear n0_ n1_ n2_ n3_ n4_ n5_ n6_ n7_ n8_ n9_
                       have p143 : 0 ≤ (At : Int):=of_decide_eq_true qA9
                       have q143 : At < (l0_3.length : Int):=of_decide_eq_true qA9
                       obtain ⟨ad143,A143_0,c143_0,e143,hx143_0,hl143_0,hi143_0⟩:=at_L1 HR0_3.out At p143 q143
                       have hw143_0:=hx143_0
                       cases e143
                       replace hx143_0:=(HB.out.cell (World.block_lt_of_cell? w _ hx143_0)).trans hx143_0
                       have HR143_0:=Aside0.mk hi143_0
                       have HC143_0:=Aside0.mk hl143_0
                       clear hi143_0 hl143_0
                       replace p143:=eq_true p143
                       replace q143:=eq_true q143
                       have p144 : 0 ≤ (Ay : Int):=of_decide_eq_true qA9
                       have q144 : Ay < ((rd_L1 l0_3 At).length : Int):=of_decide_eq_true qA9
                       obtain ⟨ad144,e144,hx144_0⟩:=Kd.at_int HR143_0.out Ay p144 q144
                       have hw144_0:=hx144_0
                       cases e144
                       replace hx144_0:=(HB.out.cell (World.block_lt_of_cell? w _ hx144_0)).trans hx144_0
                       replace p144:=eq_true p144
                       replace q144:=eq_true q144
                       refine start_ (n:=22) (S:=fun w'=>w'.cell? ⟨Ac,0,none⟩ = some (.int .i64 a0_0) ∧ w'.cell? ⟨Ac,1,none⟩ = some (.int .i64 a0_1) ∧ w'.cell? ⟨Ac,2,none⟩ = some (.int .i64 a0_2) ∧ w'.cell? ⟨Ac,3,none⟩ = some (.slice (some ad143) l0_3.length c0_3) ∧ w'.cell? ⟨Ac,4,none⟩ = some (.slice (some ad137) l0_4.length c0_4) ∧ w'.cell? ⟨Ac,5,none⟩ = some (.int .i64 a0_5) ∧ w'.cell? ⟨Ae,0,none⟩ = some (.int .i64 a1_0) ∧ w'.cell? ⟨Ae,1,none⟩ = some (.int .i64 a1_1) ∧ w'.cell? ⟨Ae,2,none⟩ = some (.int .i64 a1_2) ∧ w'.cell? ⟨Ae,3,none⟩ = some (.slice A1_3 l1_3.length c1_3) ∧ w'.cell? ⟨Ae,4,none⟩ = some (.slice A1_4 l1_4.length c1_4) ∧ w'.cell? ⟨Ae,5,none⟩ = some (.int .i64 a1_5) ∧ w'.cell? (ad143.add (At).toNat) = some (.slice (some ad144) (rd_L1 l0_3 At).length c143_0) ∧ w'.cell? (ad144.add (Ay).toNat) = some (.int .i64 (rd (rd_L1 l0_3 At) Ay))) (ds:=[]) #[false,false,false,false,false,false,false,false,false,false,false,false,false,false,false,false,false,false,false,false,false,false] (by kernel_rfl) rfl rfl ⟨(blk_cell Aa.out 0).trans rfl,(blk_cell Aa.out 1).trans rfl,(blk_cell Aa.out 2).trans rfl,(blk_cell Aa.out 3).trans rfl,(blk_cell Aa.out 4).trans rfl,(blk_cell Aa.out 5).trans rfl,(blk_cell Ab.out 0).trans rfl,(blk_cell Ab.out 1).trans rfl,(blk_cell Ab.out 2).trans rfl,(blk_cell Ab.out 3).trans rfl,(blk_cell Ab.out 4).trans rfl,(blk_cell Ab.out 5).trans rfl,((HB.out.cell (World.block_lt_of_cell? w _ hw143_0)).trans hw143_0),((HB.out.cell (World.block_lt_of_cell? w _ hw144_0)).trans hw144_0)⟩ (fun hHeld=>?_);refine with_tabW turner_Then.tab26 turner_Then.bits26 (fun HT_ HW_=>?_)
                       generalize w69.drew = w73 at Av Aq Af Ad A9 Aa Ab Ai Aj HB HR143_0 hx143_0 hx144_0 hHeld ⊢
                       refine pure_ (i:=0) (N:=some 92) (v:=?_) (a':=?_) #[true,false,false,false,false,false,false,false,false,false,false,false,false,false,false,false,false,false,false,false,false,false] rfl rfl (any_of HT_.out (by kernel_rfl)) (fun _ _ _ h=>h) (Or.inl ⟨by rfl,?_⟩) ?_ ?_
                       rotate_left
                       ·intro w'
                        go_simp
                        with_reducible rfl
                       rotate_left
                       ·simp only [Act.put,List.setIfInBounds_toArray,List.set_cons_zero,List.set_cons_succ,i64_w,i32_w]
                        rfl
                       refine pure_ (i:=1) (N:=some 93) (v:=?_) (a':=?_) #[true,true,false,false,false,false,false,false,false,false,false,false,false,false,false,false,false,false,false,false,false,false] rfl rfl (any_of HT_.out (by kernel_rfl)) (fun _ _ _ h=>h) (Or.inl ⟨by rfl,?_⟩) ?_ ?_
                       rotate_left
                       ·intro w'
                        go_simp
                        with_reducible rfl
                       rotate_left
                       ·simp only [Act.put,List.setIfInBounds_toArray,List.set_cons_zero,List.set_cons_succ,i64_w,i32_w]
                        rfl
                       refine pure_ (i:=3) (N:=some 95) (v:=?_) (a':=?_) #[true,true,false,true,false,false,false,false,false,false,false,false,false,false,false,false,false,false,false,false,false,false] rfl rfl (any_of HT_.out (by kernel_rfl)) (fun _ _ _ h=>h) (Or.inl ⟨by rfl,?_⟩) ?_ ?_
                       rotate_left
                       ·intro w'
                        go_simp
                        with_reducible rfl
                       rotate_left
                       ·simp only [Act.put,List.setIfInBounds_toArray,List.set_cons_zero,List.set_cons_succ,i64_w,i32_w]
                        rfl
                       refine pure_ (i:=6) (N:=some 98) (v:=?_) (a':=?_) #[true,true,false,true,false,false,true,false,false,false,false,false,false,false,false,false,false,false,false,false,false,false] rfl rfl (any_of HT_.out (by kernel_rfl)) (fun _ _ _ h=>h) (Or.inl ⟨by rfl,?_⟩) ?_ ?_
                       rotate_left
                       ·intro w'
                        go_simp
                        with_reducible rfl
                       rotate_left
                       ·simp only [Act.put,List.setIfInBounds_toArray,List.set_cons_zero,List.set_cons_succ,i64_w,i32_w]
                        rfl
                       refine pure_ (i:=9) (N:=some 101) (v:=?_) (a':=?_) #[true,true,false,true,false,false,true,false,false,true,false,false,false,false,false,false,false,false,false,false,false,false] rfl rfl (any_of HT_.out (by kernel_rfl)) (fun _ _ _ h=>h) (Or.inl ⟨by rfl,?_⟩) ?_ ?_
                       rotate_left
                       ·intro w'
                        go_simp
                        with_reducible rfl
                       rotate_left
                       ·simp only [Act.put,List.setIfInBounds_toArray,List.set_cons_zero,List.set_cons_succ,i64_w,i32_w]
                        rfl
                       refine pure_ (i:=12) (N:=some 104) (v:=?_) (a':=?_) #[true,true,false,true,false,false,true,false,false,true,false,false,true,false,false,false,false,false,false,false,false,false] rfl rfl (any_of HT_.out (by kernel_rfl)) (fun _ _ _ h=>h) (Or.inl ⟨by rfl,?_⟩) ?_ ?_
                       rotate_left
                       ·intro w'
                        go_simp
                        with_reducible rfl
                       rotate_left
                       ·simp only [Act.put,List.setIfInBounds_toArray,List.set_cons_zero,List.set_cons_succ,i64_w,i32_w]
                        rfl
                       refine pure_ (i:=16) (N:=some 108) (v:=?_) (a':=?_) #[true,true,false,true,false,false,true,false,false,true,false,false,true,false,false,false,true,false,false,false,false,false] rfl rfl (any_of HT_.out (by kernel_rfl)) (fun _ _ _ h=>h) (Or.inl ⟨by rfl,?_⟩) ?_ ?_
                       rotate_left
                       ·intro w'
                        go_simp
                        with_reducible rfl
                       rotate_left
                       ·simp only [Act.put,List.setIfInBounds_toArray,List.set_cons_zero,List.set_cons_succ,i64_w,i32_w]
                        rfl
                       refine pure_ (i:=17) (N:=some 109) (v:=?_) (a':=?_) #[true,true,false,true,false,false,true,false,false,true,false,false,true,false,false,false,true,true,false,false,false,false] rfl rfl (any_of HT_.out (by kernel_rfl)) (fun _ _ _ h=>h) (Or.inl ⟨by rfl,?_⟩) ?_ ?_
                       rotate_left
                       ·intro w'
                        go_simp
                        with_reducible rfl
                       rotate_left
                       ·simp only [Act.put,List.setIfInBounds_toArray,List.set_cons_zero,List.set_cons_succ,i64_w,i32_w]
                        rfl
                       refine take_ (i:=2) (N:=some 94) (v:=?_) (a':=?_) #[true,true,true,true,false,false,true,false,false,true,false,false,true,false,false,false,true,true,false,false,false,false] rfl rfl (take_ofW HT_.out HW_.out (by kernel_rfl)) (fun _ _ _ h=>h) (Or.inl ⟨by rfl,?_⟩) hHeld ?_ ?_
                       rotate_left
                       ·rintro w' ⟨s0,s1,s2,s3,s4,s5,s6,s7,s8,s9,s10,s11,s12,s13⟩
                        go_simp
                        with_reducible rfl
                       rotate_left
                       ·simp only [Act.put,List.setIfInBounds_toArray,List.set_cons_zero,List.set_cons_succ,i64_w,i32_w]
                        rfl
                       refine pure_ (i:=4) (N:=some 96) (v:=?_) (a':=?_) #[true,true,true,true,true,false,true,false,false,true,false,false,true,false,false,false,true,true,false,false,false,false] rfl rfl (any_of HT_.out (by kernel_rfl)) (fun _ _ _ h=>h) (Or.inl ⟨by rfl,?_⟩) ?_ ?_
                       rotate_left
                       ·intro w'
                        go_simp
                        with_reducible rfl
                       rotate_left
                       ·simp only [Act.put,List.setIfInBounds_toArray,List.set_cons_zero,List.set_cons_succ,i64_w,i32_w]
                        rfl
                       refine take_ (i:=5) (N:=some 97) (v:=?_) (a':=?_) #[true,true,true,true,true,true,true,false,false,true,false,false,true,false,false,false,true,true,false,false,false,false] rfl rfl (take_ofW HT_.out HW_.out (by kernel_rfl)) (fun _ _ _ h=>h) (Or.inl ⟨by rfl,?_⟩) hHeld ?_ ?_
                       rotate_left
                       ·rintro w' ⟨s0,s1,s2,s3,s4,s5,s6,s7,s8,s9,s10,s11,s12,s13⟩
                        go_simp
                        with_reducible rfl
                       rotate_left
                       ·simp only [Act.put,List.setIfInBounds_toArray,List.set_cons_zero,List.set_cons_succ,i64_w,i32_w]
                        rfl
                       refine pure_ (i:=7) (N:=some 99) (v:=?_) (a':=?_) #[true,true,true,true,true,true,true,true,false,true,false,false,true,false,false,false,true,true,false,false,false,false] rfl rfl (any_of HT_.out (by kernel_rfl)) (fun _ _ _ h=>h) (Or.inl ⟨by rfl,?_⟩) ?_ ?_
                       rotate_left
                       ·intro w'
                        go_simp
                        with_reducible rfl
                       rotate_left
                       ·simp only [Act.put,List.setIfInBounds_toArray,List.set_cons_zero,List.set_cons_succ,i64_w,i32_w]
                        rfl
                       refine take_ (i:=8) (N:=some 100) (v:=?_) (a':=?_) #[true,true,true,true,true,true,true,true,true,true,false,false,true,false,false,false,true,true,false,false,false,false] rfl rfl (take_ofW HT_.out HW_.out (by kernel_rfl)) (fun _ _ _ h=>h) (Or.inl ⟨by rfl,?_⟩) hHeld ?_ ?_
                       rotate_left
                       ·rintro w' ⟨s0,s1,s2,s3,s4,s5,s6,s7,s8,s9,s10,s11,s12,s13⟩
                        go_simp
                        with_reducible rfl
                       rotate_left
                       ·simp only [Act.put,List.setIfInBounds_toArray,List.set_cons_zero,List.set_cons_succ,i64_w,i32_w]
                        rfl
                       refine take_ (i:=10) (N:=some 102) (v:=?_) (a':=?_) #[true,true,true,true,true,true,true,true,true,true,true,false,true,false,false,false,true,true,false,false,false,false] rfl rfl (take_ofW HT_.out HW_.out (by kernel_rfl)) (fun _ _ _ h=>h) (Or.inl ⟨by rfl,?_⟩) hHeld ?_ ?_
                       rotate_left
                       ·rintro w' ⟨s0,s1,s2,s3,s4,s5,s6,s7,s8,s9,s10,s11,s12,s13⟩
                        go_simp
                        with_reducible rfl
                       rotate_left
                       ·simp only [Act.put,List.setIfInBounds_toArray,List.set_cons_zero,List.set_cons_succ,i64_w,i32_w]
                        rfl
                       refine pure_ (i:=11) (N:=some 103) (v:=?_) (a':=?_) #[true,true,true,true,true,true,true,true,true,true,true,true,true,false,false,false,true,true,false,false,false,false] rfl rfl (any_of HT_.out (by kernel_rfl)) (fun _ _ _ h=>h) (Or.inl ⟨by rfl,?_⟩) ?_ ?_
                       rotate_left
                       ·intro w'
                        go_simp
                        with_reducible rfl
                       rotate_left
                       ·simp only [Act.put,List.setIfInBounds_toArray,List.set_cons_zero,List.set_cons_succ,i64_w,i32_w]
                        rfl
                       refine pure_ (i:=13) (N:=some 105) (v:=?_) (a':=?_) #[true,true,true,true,true,true,true,true,true,true,true,true,true,true,false,false,true,true,false,false,false,false] rfl rfl (any_of HT_.out (by kernel_rfl)) (fun _ _ _ h=>h) (Or.inl ⟨by rfl,?_⟩) ?_ ?_
                       rotate_left
                       ·intro w'
                        go_simp
                        with_reducible rfl
                       rotate_left
                       ·simp only [Act.put,List.setIfInBounds_toArray,List.set_cons_zero,List.set_cons_succ,i64_w,i32_w]
                        rfl
                       refine join_ (σ:=Value × Value × Value) 3 #[true,true,true,true,true,true,true,true,true,true,true,true,true,true,true,true,true,true,true,false,false,false] (fun s_=>[(106,s_.1),(107,s_.2.1),(110,s_.2.2)]) (fun s_ w'=>(w'.cell? ⟨Ac,0,none⟩ = some (.int .i64 a0_0) ∧ w'.cell? ⟨Ac,1,none⟩ = some (.int .i64 a0_1) ∧ w'.cell? ⟨Ac,2,none⟩ = some (.int .i64 a0_2) ∧ w'.cell? ⟨Ac,3,none⟩ = some (.slice (some ad143) l0_3.length c0_3) ∧ w'.cell? ⟨Ac,4,none⟩ = some (.slice (some ad137) l0_4.length c0_4) ∧ w'.cell? ⟨Ac,5,none⟩ = some (.int .i64 a0_5) ∧ w'.cell? ⟨Ae,0,none⟩ = some (.int .i64 a1_0) ∧ w'.cell? ⟨Ae,1,none⟩ = some (.int .i64 a1_1) ∧ w'.cell? ⟨Ae,2,none⟩ = some (.int .i64 a1_2) ∧ w'.cell? ⟨Ae,3,none⟩ = some (.slice A1_3 l1_3.length c1_3) ∧ w'.cell? ⟨Ae,4,none⟩ = some (.slice A1_4 l1_4.length c1_4) ∧ w'.cell? ⟨Ae,5,none⟩ = some (.int .i64 a1_5) ∧ w'.cell? (ad143.add (At).toNat) = some (.slice (some ad144) (rd_L1 l0_3 At).length c143_0) ∧ w'.cell? (ad144.add (Ay).toNat) = some (.int .i64 (rd (rd_L1 l0_3 At) Ay))) ∧ (Kd.R (Kd.int .i64) 3 w' w.heap.size (fun k_=>(w.heap.size ≤ k_) ∧ some k_ ≠ (s_.2.1 : Value).ownBlock) s_.1 Be) ∧ (Kd.R (Kd.int .i64) 3 w' w.heap.size (fun k_=>(w.heap.size ≤ k_) ∧ some k_ ≠ (s_.1 : Value).ownBlock) s_.2.1 y148) ∧ (Kd.N (Kd.slice 3 (Kd.int .i64)) 26 w' w.heap.size (fun k_=>(w.heap.size ≤ k_) ∧ some k_ ≠ (s_.1 : Value).ownBlock ∧ some k_ ≠ (s_.2.1 : Value).ownBlock ∧ some k_ ≠ (.slice Bj Au.length Bk : Value).ownBlock ∧ some k_ ≠ (Am : Value).ownBlock ∧ some k_ ≠ (An : Value).ownBlock ∧ k_ ≠ Ac ∧ k_ ≠ Ae ∧ k_ ≠ Ag ∧ k_ ≠ Ak) s_.2.2 B4) ∧ (Kd.N (Kd.slice 3 (Kd.int .i64)) 26 w' w.heap.size (fun k_=>(w.heap.size ≤ k_) ∧ some k_ ≠ (s_.1 : Value).ownBlock ∧ some k_ ≠ (s_.2.1 : Value).ownBlock ∧ some k_ ≠ (s_.2.2 : Value).ownBlock ∧ some k_ ≠ (Am : Value).ownBlock ∧ some k_ ≠ (An : Value).ownBlock ∧ k_ ≠ Ac ∧ k_ ≠ Ae ∧ k_ ≠ Ag ∧ k_ ≠ Ak) (.slice Bj Au.length Bk) Au) ∧ (Kd.N (Kd.slice 3 (Kd.int .i64)) 26 w' w.heap.size (fun k_=>(w.heap.size ≤ k_) ∧ some k_ ≠ (s_.1 : Value).ownBlock ∧ some k_ ≠ (s_.2.1 : Value).ownBlock ∧ some k_ ≠ (s_.2.2 : Value).ownBlock ∧ some k_ ≠ (.slice Bj Au.length Bk : Value).ownBlock ∧ some k_ ≠ (An : Value).ownBlock ∧ k_ ≠ Ac ∧ k_ ≠ Ae ∧ k_ ≠ Ag ∧ k_ ≠ Ak) Am Al) ∧ (Kd.N (Kd.slice 26 (Kd.slice 3 (Kd.int .i64))) 22 w' w.heap.size (fun k_=>(w.heap.size ≤ k_) ∧ some k_ ≠ (s_.1 : Value).ownBlock ∧ some k_ ≠ (s_.2.1 : Value).ownBlock ∧ some k_ ≠ (s_.2.2 : Value).ownBlock ∧ some k_ ≠ (.slice Bj Au.length Bk : Value).ownBlock ∧ some k_ ≠ (Am : Value).ownBlock ∧ k_ ≠ Ac ∧ k_ ≠ Ae ∧ k_ ≠ Ag ∧ k_ ≠ Ak) An Ah) ∧ (w'.heap[Ac]? = some (.cells #[.int .i64 a0_0,.int .i64 a0_1,.int .i64 a0_2,.slice (some ad143) l0_3.length c0_3,.slice (some ad137) l0_4.length c0_4,.int .i64 a0_5] 25 (0,0))) ∧ (w'.heap[Ae]? = some (.cells #[.int .i64 a1_0,.int .i64 a1_1,.int .i64 a1_2,.slice A1_3 l1_3.length c1_3,.slice A1_4 l1_4.length c1_4,.int .i64 a1_5] 25 (0,0))) ∧ (w'.heap[Ag]? = some (.cells #[.int .i64 As,.int .i64 Ar,.int .i64 Ap,.slice none 0 0,.slice none 0 0,.int .i64 Ao] 25 (0,0))) ∧ (w'.heap[Ak]? = some (.cells #[.int .i64 (wrap64 (a0_0 * a1_0)),.int .i64 a0_1,.int .i64 a1_2,Am,An,.int .i64 (wrap64 ((wrap64 (a0_5 * a1_0)) + a1_5))] 25 (0,0))) ∧ (Below w.heap.size w w')) ?_ ?_
                       rotate_left
                       ·intro hCont
                        refine two_ (i:=14) (j:=18) (Ni:=some 106) (Nj:=some 110) #[true,true,true,true,true,true,true,true,true,true,true,true,true,true,true,false,true,true,false,false,false,false] #[true,true,true,true,true,true,true,true,true,true,true,true,true,true,false,false,true,true,true,false,false,false] rfl rfl rfl rfl (two_of HT_.out (by kernel_rfl)) (by decide) (by decide) (fun K hK=>?_) (fun K hK=>?_)
                        ·skip
                         refine Kd.R_lit_step (Kd.int .i64) _ 3 ?hg1 (N:=106) ?hd1 (xs:=([wrap64 ((wrap64 ((rd (rd_L1 l0_3 At) Ay) * a1_0)) + Cl)] : List Int)) (inner:=[.int .i64 (wrap64 ((wrap64 ((rd (rd_L1 l0_3 At) Ay) * a1_0)) + Cl))]) (ok:=fun _=>True) (okp:=fun _=>True) ?hr1 ?hp1 (fun _ hk=>hk) trivial (Below.refl _ _) (Nat.le_refl _) (by simp) ?_;(case hd1=>rfl);(case hg1=>rfl);(case hr1=>first|(go_simp;done)|(go_simp;rfl));(case hp1=>exact (Reps.one (show Kd.M (Kd.int .i64) _ _ _ (wrap64 ((wrap64 ((rd (rd_L1 l0_3 At) Ay) * a1_0)) + Cl)) [.int .i64 (wrap64 ((wrap64 ((rd (rd_L1 l0_3 At) Ay) * a1_0)) + Cl))] from rfl) (Reps.none _ _)))
                         intro v146 w74 ho75 hb hg_ hnew_
                         clear hg_ hnew_
                         (first|rw [← Ny145.out] at ho75|(simp only [Int.reduceToNat] at ho75;rw [← Ny145.out] at ho75))
                         have n0_:=Aside0.mk (Kd.R_elder' (qR Av.out) (Kd.R_base ho75) hb)
                         have n1_:=Aside0.mk (Kd.N_elder' (qN Aq.out) (Kd.R_base ho75) hb)
                         have n2_:=Aside0.mk (Kd.N_elder' (qN Af.out) (Kd.R_base ho75) hb)
                         have n3_:=Aside0.mk (Kd.N_elder' (qN Ad.out) (Kd.R_base ho75) hb)
                         have n4_:=Aside0.mk (Kd.R_elder' (qR A9.out) (Kd.R_base ho75) hb)
                         have n5_:=Aside0.mk (Kd.R_lower (Kd.R_new' (Kd.R_new' (Kd.R_newM (M:=fun k_=>(w.heap.size ≤ k_)) ho75 (below_size qB7) (fun k_ h_=>h_)) (Kd.R_lt (qR Av.out))) (Kd.R_lt (qR A9.out))) (below_size qB7))
                         have n6_:=Aside0.mk (blk_below (qD Aa.out) hb)
                         have n7_:=Aside0.mk (blk_below (qD Ab.out) hb)
                         have n8_:=Aside0.mk (blk_below (qD Ai.out) hb)
                         have n9_:=Aside0.mk (blk_below (qD Aj.out) hb)
                         have n10_:=Aside0.mk (below_step qB7 hb)
                         clear Av
                         clear Aq
                         clear Af
                         clear Ad
                         clear A9
                         clear Aa
                         clear Ab
                         clear Ai
                         clear Aj
                         clear HB
                         have Av:=n0_
                         have Aq:=n1_
                         have Af:=n2_
                         have Ad:=n3_
                         have A9:=n4_
                         have A2:=n5_
                         have Aa:=n6_
                         have Ab:=n7_
                         have Ai:=n8_
                         have Aj:=n9_
                         have HB:=n10_
                         clear n0_ n1_ n2_ n3_ n4_ n5_ n6_ n7_ n8_ n9_ n10_
                         clear hb ho75
                         obtain ⟨B2,B3,eo77⟩:=Kd.R_slice A2.out
                         (first|subst eo77|(injection eo77 with f1_ f2_ f3_;have f4_:=f1_.symm;have f5_:=f3_.symm;clear f1_ f2_ f3_;subst f4_;subst f5_))
                         refine hK.out _ _ ⟨(blk_cell Aa.out 0).trans rfl,(blk_cell Aa.out 1).trans rfl,(blk_cell Aa.out 2).trans rfl,(blk_cell Aa.out 3).trans rfl,(blk_cell Aa.out 4).trans rfl,(blk_cell Aa.out 5).trans rfl,(blk_cell Ab.out 0).trans rfl,(blk_cell Ab.out 1).trans rfl,(blk_cell Ab.out 2).trans rfl,(blk_cell Ab.out 3).trans rfl,(blk_cell Ab.out 4).trans rfl,(blk_cell Ab.out 5).trans rfl,((HB.out.cell (World.block_lt_of_cell? w _ hw143_0)).trans hw143_0),((HB.out.cell (World.block_lt_of_cell? w _ hw144_0)).trans hw144_0)⟩ (fun hHeld=>?_)
                         clear hK K
                         refine norm_ (a':=?_) ?_ ?_
                         rotate_left
                         ·show Act.put _ (some 106) _ = _
                          simp only [Act.put,List.setIfInBounds_toArray,List.set_cons_zero,List.set_cons_succ,i64_w,i32_w]
                          rfl
                         refine two_ (i:=15) (j:=18) (Ni:=some 107) (Nj:=some 110) #[true,true,true,true,true,true,true,true,true,true,true,true,true,true,true,true,true,true,false,false,false,false] #[true,true,true,true,true,true,true,true,true,true,true,true,true,true,true,false,true,true,true,false,false,false] rfl rfl rfl rfl (two_of HT_.out (by kernel_rfl)) (by decide) (by decide) (fun K hK=>?_) (fun K hK=>?_)
                         ·skip
                          refine Kd.R_append_rows_step (Kd.int .i64) (w0:=w) w.heap.size (by rfl) (.tmp 92) (.tmp 106) 26 3 (.int .i64 0) 8 rfl Try.underlying26 info3 rfl (by decide) (by omega) (.slice B5 Az.length B6) Az Be _ _ _ (fun k_=>(w.heap.size ≤ k_) ∧ some k_ ≠ (.slice Cg Bm.length Ch : Value).ownBlock ∧ some k_ ≠ (.slice B2 Be.length B3 : Value).ownBlock) (fun _=>False) rfl rfl ?aO ?aR (fun _ _ h=>h) (fun _ h=>h.elim) ?aF ?aB ?aS ?aL ?_
                          (case aR=>repeat (first|exact (Kd.R_reads' A2.out).2.2|(with_reducible refine Kd.C_alloc ?_ _)|(with_reducible refine Kd.C_drewN ?_ _)|(with_reducible refine Kd.C_drew ?_)))
                          (case aB=>exact qB7)
                          (case aF=>exact (fun k_ hk=>⟨(Nat.le_trans (below_size qB7) hk),Kd.fresh' (Kd.R_lt (qR A9.out)) k_ hk,Kd.fresh' (Kd.R_lt (qR A2.out)) k_ hk⟩))
                          (case aO=>exact (by (with_reducible repeat (first|apply Kd.R_alloc|apply Kd.R_drewN|apply Kd.R_drew));exact Kd.R_mono Av.out (fun _ hk=>⟨hk.1.1,⟨hk.1.2,hk.2⟩⟩)))
                          (case aS=>exact (below_size qB7))
                          (case aL=>have:=LMc66.out;omega)
                          intro v149 w76 ho hb hg hat
                          rw [← Ny148.out] at ho
                          have n0_:=Aside0.mk (Kd.N_afterv (ok:=(fun k_=>(w.heap.size ≤ k_) ∧ some k_ ≠ (Am : Value).ownBlock ∧ some k_ ≠ (An : Value).ownBlock ∧ some k_ ≠ (.slice Cg Bm.length Ch : Value).ownBlock ∧ some k_ ≠ (.slice B2 Be.length B3 : Value).ownBlock ∧ k_ ≠ Ac ∧ k_ ≠ Ae ∧ k_ ≠ Ag ∧ k_ ≠ Ak)) (by (with_reducible repeat (first|apply Kd.N_alloc|apply Kd.N_drewN|apply Kd.N_drew));exact Kd.N_mono Aq.out (fun _ hk=>⟨⟨hk.1.1.1,⟨hk.1.1.2.2.1,⟨hk.1.1.2.2.2.1,⟨hk.1.2,⟨hk.2,⟨hk.1.1.2.2.2.2.1,⟨hk.1.1.2.2.2.2.2.1,⟨hk.1.1.2.2.2.2.2.2.1,hk.1.1.2.2.2.2.2.2.2⟩⟩⟩⟩⟩⟩⟩⟩,hk.1.1.2.1⟩)) hg hat)
                          have n1_:=Aside0.mk (Kd.N_afterv (ok:=(fun k_=>(w.heap.size ≤ k_) ∧ some k_ ≠ (.slice Bj Au.length Bk : Value).ownBlock ∧ some k_ ≠ (An : Value).ownBlock ∧ some k_ ≠ (.slice Cg Bm.length Ch : Value).ownBlock ∧ some k_ ≠ (.slice B2 Be.length B3 : Value).ownBlock ∧ k_ ≠ Ac ∧ k_ ≠ Ae ∧ k_ ≠ Ag ∧ k_ ≠ Ak)) (by (with_reducible repeat (first|apply Kd.N_alloc|apply Kd.N_drewN|apply Kd.N_drew));exact Kd.N_mono Af.out (fun _ hk=>⟨⟨hk.1.1.1,⟨hk.1.1.2.2.1,⟨hk.1.1.2.2.2.1,⟨hk.1.2,⟨hk.2,⟨hk.1.1.2.2.2.2.1,⟨hk.1.1.2.2.2.2.2.1,⟨hk.1.1.2.2.2.2.2.2.1,hk.1.1.2.2.2.2.2.2.2⟩⟩⟩⟩⟩⟩⟩⟩,hk.1.1.2.1⟩)) hg hat)
                          have n2_:=Aside0.mk (Kd.N_afterv (ok:=(fun k_=>(w.heap.size ≤ k_) ∧ some k_ ≠ (.slice Bj Au.length Bk : Value).ownBlock ∧ some k_ ≠ (Am : Value).ownBlock ∧ some k_ ≠ (.slice Cg Bm.length Ch : Value).ownBlock ∧ some k_ ≠ (.slice B2 Be.length B3 : Value).ownBlock ∧ k_ ≠ Ac ∧ k_ ≠ Ae ∧ k_ ≠ Ag ∧ k_ ≠ Ak)) (by (with_reducible repeat (first|apply Kd.N_alloc|apply Kd.N_drewN|apply Kd.N_drew));exact Kd.N_mono Ad.out (fun _ hk=>⟨⟨hk.1.1.1,⟨hk.1.1.2.2.1,⟨hk.1.1.2.2.2.1,⟨hk.1.2,⟨hk.2,⟨hk.1.1.2.2.2.2.1,⟨hk.1.1.2.2.2.2.2.1,⟨hk.1.1.2.2.2.2.2.2.1,hk.1.1.2.2.2.2.2.2.2⟩⟩⟩⟩⟩⟩⟩⟩,hk.1.1.2.1⟩)) hg hat)
                          have n3_:=Aside0.mk (blk_grown (g:=Ac) (o:=.cells #[.int .i64 a0_0,.int .i64 a0_1,.int .i64 a0_2,.slice (some ad143) l0_3.length c0_3,.slice (some ad137) l0_4.length c0_4,.int .i64 a0_5] 25 (0,0)) (qD Aa.out) hg (Kd.R_ne Av.out Aa.out (by decide)))
                          have n4_:=Aside0.mk (blk_grown (g:=Ae) (o:=.cells #[.int .i64 a1_0,.int .i64 a1_1,.int .i64 a1_2,.slice A1_3 l1_3.length c1_3,.slice A1_4 l1_4.length c1_4,.int .i64 a1_5] 25 (0,0)) (qD Ab.out) hg (Kd.R_ne Av.out Ab.out (by decide)))
                          have n5_:=Aside0.mk (blk_grown (g:=Ag) (o:=.cells #[.int .i64 As,.int .i64 Ar,.int .i64 Ap,.slice none 0 0,.slice none 0 0,.int .i64 Ao] 25 (0,0)) (qD Ai.out) hg (Kd.R_ne Av.out Ai.out (by decide)))
                          have n6_:=Aside0.mk (blk_grown (g:=Ak) (o:=.cells #[.int .i64 (wrap64 (a0_0 * a1_0)),.int .i64 a0_1,.int .i64 a1_2,Am,An,.int .i64 (wrap64 ((wrap64 (a0_5 * a1_0)) + a1_5))] 25 (0,0)) (qD Aj.out) hg (Kd.R_ne Av.out Aj.out (by decide)))
                          have n7_:=Aside0.mk (Kd.R_after (ok:=(fun k_=>(w.heap.size ≤ k_) ∧ some k_ ≠ (.slice B2 Be.length B3 : Value).ownBlock)) (by (with_reducible repeat (first|apply Kd.R_alloc|apply Kd.R_drewN|apply Kd.R_drew));exact Kd.R_mono A9.out (fun _ hk=>⟨⟨hk.1.1.1,hk.2⟩,hk.1.2⟩)) hg hat)
                          have n8_:=Aside0.mk (Kd.R_after (ok:=(fun k_=>(w.heap.size ≤ k_) ∧ some k_ ≠ (.slice Cg Bm.length Ch : Value).ownBlock)) (by (with_reducible repeat (first|apply Kd.R_alloc|apply Kd.R_drewN|apply Kd.R_drew));exact Kd.R_mono A2.out (fun _ hk=>⟨⟨hk.1.1.1,hk.2⟩,hk.1.2⟩)) hg hat)
                          have n9_:=Aside0.mk (hb)
                          have n10_:=Aside0.mk (ho)
                          clear Aq
                          clear Af
                          clear Ad
                          clear Aa
                          clear Ab
                          clear Ai
                          clear Aj
                          clear A9
                          clear A2
                          clear HB
                          clear Av
                          have Aq:=n0_
                          have Af:=n1_
                          have Ad:=n2_
                          have Aa:=n3_
                          have Ab:=n4_
                          have Ai:=n5_
                          have Aj:=n6_
                          have A9:=n7_
                          have A2:=n8_
                          have HB:=n9_
                          have Bx:=n10_
                          clear n0_ n1_ n2_ n3_ n4_ n5_ n6_ n7_ n8_ n9_ n10_
                          clear ho hb hg hat
                          refine hK.out _ _ ⟨(blk_cell Aa.out 0).trans rfl,(blk_cell Aa.out 1).trans rfl,(blk_cell Aa.out 2).trans rfl,(blk_cell Aa.out 3).trans rfl,(blk_cell Aa.out 4).trans rfl,(blk_cell Aa.out 5).trans rfl,(blk_cell Ab.out 0).trans rfl,(blk_cell Ab.out 1).trans rfl,(blk_cell Ab.out 2).trans rfl,(blk_cell Ab.out 3).trans rfl,(blk_cell Ab.out 4).trans rfl,(blk_cell Ab.out 5).trans rfl,((HB.out.cell (World.block_lt_of_cell? w _ hw143_0)).trans hw143_0),((HB.out.cell (World.block_lt_of_cell? w _ hw144_0)).trans hw144_0)⟩ (fun hHeld=>?_)
                          clear hK K
                          refine norm_ (a':=?_) ?_ ?_
                          rotate_left
                          ·show Act.put _ (some 107) _ = _
                           simp only [Act.put,List.setIfInBounds_toArray,List.set_cons_zero,List.set_cons_succ,i64_w,i32_w]
                           rfl
                          refine one_ (i:=18) (N:=some 110) #[true,true,true,true,true,true,true,true,true,true,true,true,true,true,true,true,true,true,true,false,false,false] rfl rfl (one_of HT_.out (by kernel_rfl)) (by decide) (fun K hK=>?_)
                          refine Kd.N_lit_step (Kd.slice 3 (Kd.int .i64)) _ 26 ?hg2 (N':=110) ?hd2 (xs:=([Bm] : List (List Int))) (inner:=[.slice Cg Bm.length Ch]) (ok:=(fun k_=>(w.heap.size ≤ k_) ∧ some k_ ≠ (.slice Bj Au.length Bk : Value).ownBlock ∧ some k_ ≠ (Am : Value).ownBlock ∧ some k_ ≠ (An : Value).ownBlock ∧ some k_ ≠ (.slice B2 Be.length B3 : Value).ownBlock ∧ some k_ ≠ (v149 : Value).ownBlock ∧ k_ ≠ Ac ∧ k_ ≠ Ae ∧ k_ ≠ Ag ∧ k_ ≠ Ak)) (okp:=(fun k_=>(w.heap.size ≤ k_) ∧ some k_ ≠ (.slice Bj Au.length Bk : Value).ownBlock ∧ some k_ ≠ (Am : Value).ownBlock ∧ some k_ ≠ (An : Value).ownBlock ∧ some k_ ≠ (.slice B2 Be.length B3 : Value).ownBlock ∧ some k_ ≠ (v149 : Value).ownBlock ∧ k_ ≠ Ac ∧ k_ ≠ Ae ∧ k_ ≠ Ag ∧ k_ ≠ Ak)) ?hr2 ?hp2 (fun _ hk=>hk) ((show ∀ k_,w76.heap.size ≤ k_ → (fun k_=>(w.heap.size ≤ k_) ∧ some k_ ≠ (.slice Bj Au.length Bk : Value).ownBlock ∧ some k_ ≠ (Am : Value).ownBlock ∧ some k_ ≠ (An : Value).ownBlock ∧ some k_ ≠ (.slice B2 Be.length B3 : Value).ownBlock ∧ some k_ ≠ (v149 : Value).ownBlock ∧ k_ ≠ Ac ∧ k_ ≠ Ae ∧ k_ ≠ Ag ∧ k_ ≠ Ak) k_ from fun k_ hk=>⟨(Nat.le_trans (below_size qB7) hk),Kd.fresh' (Kd.N_lt (qN Aq.out)) k_ hk,Kd.fresh' (Kd.N_lt (qN Af.out)) k_ hk,Kd.fresh' (Kd.N_lt (qN Ad.out)) k_ hk,Kd.fresh' (Kd.R_lt (qR A2.out)) k_ hk,Kd.fresh' (Kd.R_lt (qR Bx.out)) k_ hk,Kd.freshB (g:=Ac) (o:=.cells #[.int .i64 a0_0,.int .i64 a0_1,.int .i64 a0_2,.slice (some ad143) l0_3.length c0_3,.slice (some ad137) l0_4.length c0_4,.int .i64 a0_5] 25 (0,0)) (qD Aa.out) k_ hk,Kd.freshB (g:=Ae) (o:=.cells #[.int .i64 a1_0,.int .i64 a1_1,.int .i64 a1_2,.slice A1_3 l1_3.length c1_3,.slice A1_4 l1_4.length c1_4,.int .i64 a1_5] 25 (0,0)) (qD Ab.out) k_ hk,Kd.freshB (g:=Ag) (o:=.cells #[.int .i64 As,.int .i64 Ar,.int .i64 Ap,.slice none 0 0,.slice none 0 0,.int .i64 Ao] 25 (0,0)) (qD Ai.out) k_ hk,Kd.freshB (g:=Ak) (o:=.cells #[.int .i64 (wrap64 (a0_0 * a1_0)),.int .i64 a0_1,.int .i64 a1_2,Am,An,.int .i64 (wrap64 ((wrap64 (a0_5 * a1_0)) + a1_5))] 25 (0,0)) (qD Aj.out) k_ hk⟩) _ (Nat.le_refl _)) (Below.refl _ _) (Nat.le_refl _) (by simp) ?_;(case hd2=>rfl);(case hg2=>rfl);(case hr2=>first|(go_simp;done)|(go_simp;rfl));(case hp2=>first|exact (Reps.one (show Kd.FK (Kd.slice 3 (Kd.int .i64)) _ _ Bm [.slice Cg Bm.length Ch] from (Kd.FK_slice_mk (Kd.R_reads' (Kd.R_mono (ok':=(fun k_=>(w.heap.size ≤ k_) ∧ some k_ ≠ (.slice Bj Au.length Bk : Value).ownBlock ∧ some k_ ≠ (Am : Value).ownBlock ∧ some k_ ≠ (An : Value).ownBlock ∧ some k_ ≠ (.slice B2 Be.length B3 : Value).ownBlock ∧ some k_ ≠ (v149 : Value).ownBlock ∧ k_ ≠ Ac ∧ k_ ≠ Ae ∧ k_ ≠ Ag ∧ k_ ≠ Ak)) (Kd.R_types (Kd.R_types (Kd.R_types (Kd.R_types (Kd.R_apart' (Kd.R_apart' (Kd.R_apart' (A9.out) (Kd.N_typed Aq.out) (by decide)) (Kd.N_typed Af.out) (by decide)) (Kd.N_typed Ad.out) (by decide)) Aa.out (by decide)) Ab.out (by decide)) Ai.out (by decide)) Aj.out (by decide)) (fun k_ hk=>⟨hk.1.1.1.1.1.1.1.1.1,⟨hk.1.1.1.1.1.1.2,⟨hk.1.1.1.1.1.2,⟨hk.1.1.1.1.2,⟨hk.1.1.1.1.1.1.1.1.2,⟨hk.1.1.1.1.1.1.1.2,⟨hk.1.1.1.2,⟨hk.1.1.2,⟨hk.1.2,hk.2⟩⟩⟩⟩⟩⟩⟩⟩⟩))).2.1 (Kd.R_F (Kd.R_mono (ok':=(fun k_=>(w.heap.size ≤ k_) ∧ some k_ ≠ (.slice Bj Au.length Bk : Value).ownBlock ∧ some k_ ≠ (Am : Value).ownBlock ∧ some k_ ≠ (An : Value).ownBlock ∧ some k_ ≠ (.slice B2 Be.length B3 : Value).ownBlock ∧ some k_ ≠ (v149 : Value).ownBlock ∧ k_ ≠ Ac ∧ k_ ≠ Ae ∧ k_ ≠ Ag ∧ k_ ≠ Ak)) (Kd.R_types (Kd.R_types (Kd.R_types (Kd.R_types (Kd.R_apart' (Kd.R_apart' (Kd.R_apart' (A9.out) (Kd.N_typed Aq.out) (by decide)) (Kd.N_typed Af.out) (by decide)) (Kd.N_typed Ad.out) (by decide)) Aa.out (by decide)) Ab.out (by decide)) Ai.out (by decide)) Aj.out (by decide)) (fun k_ hk=>⟨hk.1.1.1.1.1.1.1.1.1,⟨hk.1.1.1.1.1.1.2,⟨hk.1.1.1.1.1.2,⟨hk.1.1.1.1.2,⟨hk.1.1.1.1.1.1.1.1.2,⟨hk.1.1.1.1.1.1.1.2,⟨hk.1.1.1.2,⟨hk.1.1.2,⟨hk.1.2,hk.2⟩⟩⟩⟩⟩⟩⟩⟩⟩))))) (Reps.none _ _))|exact (Reps.one (show Kd.FK (Kd.slice 3 (Kd.int .i64)) _ _ Bm [.slice Cg Bm.length Ch] from (Kd.FK_slice_mk (Kd.R_reads' (Kd.R_mono (ok':=(fun k_=>(w.heap.size ≤ k_) ∧ some k_ ≠ (.slice Bj Au.length Bk : Value).ownBlock ∧ some k_ ≠ (Am : Value).ownBlock ∧ some k_ ≠ (An : Value).ownBlock ∧ some k_ ≠ (.slice B2 Be.length B3 : Value).ownBlock ∧ some k_ ≠ (v149 : Value).ownBlock ∧ k_ ≠ Ac ∧ k_ ≠ Ae ∧ k_ ≠ Ag ∧ k_ ≠ Ak)) (Kd.R_types (Kd.R_types (Kd.R_types (Kd.R_types (Kd.R_apart' (Kd.R_apart' (Kd.R_apart' (A9.out) (Kd.N_typed Aq.out) (by decide)) (Kd.N_typed Af.out) (by decide)) (Kd.N_typed Ad.out) (by decide)) Aa.out (by decide)) Ab.out (by decide)) Ai.out (by decide)) Aj.out (by decide)) (fun k_ hk=>⟨hk.1.1.1.1.1.1.1.1.1,⟨hk.1.1.1.1.1.1.2,⟨hk.1.1.1.1.1.2,⟨hk.1.1.1.1.2,⟨hk.1.1.1.1.1.1.1.1.2,⟨hk.1.1.1.1.1.1.1.2,⟨hk.1.1.1.2,⟨hk.1.1.2,⟨hk.1.2,hk.2⟩⟩⟩⟩⟩⟩⟩⟩⟩))).2.1 (Kd.R_F (Kd.R_mono (ok':=(fun k_=>(w.heap.size ≤ k_) ∧ some k_ ≠ (.slice Bj Au.length Bk : Value).ownBlock ∧ some k_ ≠ (Am : Value).ownBlock ∧ some k_ ≠ (An : Value).ownBlock ∧ some k_ ≠ (.slice B2 Be.length B3 : Value).ownBlock ∧ some k_ ≠ (v149 : Value).ownBlock ∧ k_ ≠ Ac ∧ k_ ≠ Ae ∧ k_ ≠ Ag ∧ k_ ≠ Ak)) (Kd.R_types (Kd.R_types (Kd.R_types (Kd.R_types (Kd.R_apart' (Kd.R_apart' (Kd.R_apart' (A9.out) (Kd.N_typed Aq.out) (by decide)) (Kd.N_typed Af.out) (by decide)) (Kd.N_typed Ad.out) (by decide)) Aa.out (by decide)) Ab.out (by decide)) Ai.out (by decide)) Aj.out (by decide)) (fun k_ hk=>⟨hk.1.1.1.1.1.1.1.1.1,⟨hk.1.1.1.1.1.1.2,⟨hk.1.1.1.1.1.2,⟨hk.1.1.1.1.2,⟨hk.1.1.1.1.1.1.1.1.2,⟨hk.1.1.1.1.1.1.1.2,⟨hk.1.1.1.2,⟨hk.1.1.2,⟨hk.1.2,hk.2⟩⟩⟩⟩⟩⟩⟩⟩⟩))))) (Reps.none _ _)))
                          intro v152 w78 ho79 hb hg_ hnew_
                          clear hg_ hnew_
                          (first|rw [← Ny151.out] at ho79|(simp only [Int.reduceToNat] at ho79;rw [← Ny151.out] at ho79))
                          have n0_:=Aside0.mk (Kd.N_elder' (qN Aq.out) (Kd.N_base ho79) hb)
                          have n1_:=Aside0.mk (Kd.N_elder' (qN Af.out) (Kd.N_base ho79) hb)
                          have n2_:=Aside0.mk (Kd.N_elder' (qN Ad.out) (Kd.N_base ho79) hb)
                          have n3_:=Aside0.mk (Kd.R_below (qR A2.out) hb)
                          have n4_:=Aside0.mk (Kd.R_below (qR Bx.out) hb)
                          have n5_:=Aside0.mk (Kd.N_lower ho79 (below_size qB7))
                          have n6_:=Aside0.mk (blk_below (qD Aa.out) hb)
                          have n7_:=Aside0.mk (blk_below (qD Ab.out) hb)
                          have n8_:=Aside0.mk (blk_below (qD Ai.out) hb)
                          have n9_:=Aside0.mk (blk_below (qD Aj.out) hb)
                          have n10_:=Aside0.mk (below_step qB7 hb)
                          clear Aq
                          clear Af
                          clear Ad
                          clear A2
                          clear Bx
                          clear Aa
                          clear Ab
                          clear Ai
                          clear Aj
                          clear HB
                          clear A9
                          have Aq:=n0_
                          have Af:=n1_
                          have Ad:=n2_
                          have A2:=n3_
                          have Bx:=n4_
                          have Bq:=n5_
                          have Aa:=n6_
                          have Ab:=n7_
                          have Ai:=n8_
                          have Aj:=n9_
                          have HB:=n10_
                          clear n0_ n1_ n2_ n3_ n4_ n5_ n6_ n7_ n8_ n9_ n10_
                          clear hb ho79
                          refine hK.out _ _ ⟨(blk_cell Aa.out 0).trans rfl,(blk_cell Aa.out 1).trans rfl,(blk_cell Aa.out 2).trans rfl,(blk_cell Aa.out 3).trans rfl,(blk_cell Aa.out 4).trans rfl,(blk_cell Aa.out 5).trans rfl,(blk_cell Ab.out 0).trans rfl,(blk_cell Ab.out 1).trans rfl,(blk_cell Ab.out 2).trans rfl,(blk_cell Ab.out 3).trans rfl,(blk_cell Ab.out 4).trans rfl,(blk_cell Ab.out 5).trans rfl,((HB.out.cell (World.block_lt_of_cell? w _ hw143_0)).trans hw143_0),((HB.out.cell (World.block_lt_of_cell? w _ hw144_0)).trans hw144_0)⟩ (fun hHeld=>?_)
                          clear hK K
                          refine norm_ (a':=?_) ?_ ?_
                          rotate_left
                          ·show Act.put _ (some 110) _ = _
                           simp only [Act.put,List.setIfInBounds_toArray,List.set_cons_zero,List.set_cons_succ,i64_w,i32_w]
                           rfl
                          exact norm_ (by simp only [putAll,Act.put,List.setIfInBounds_toArray,List.set_cons_zero,List.set_cons_succ]) (hCont (.slice B2 Be.length B3,v149,v152) _ ⟨hHeld,(by (with_reducible repeat (first|apply Kd.R_alloc|apply Kd.R_drewN|apply Kd.R_drew));exact Kd.R_mono A2.out (fun _ hk=>⟨hk.1.1,hk.2⟩)),(by (with_reducible repeat (first|apply Kd.R_alloc|apply Kd.R_drewN|apply Kd.R_drew));exact Kd.R_mono Bx.out (fun _ hk=>⟨hk.1,hk.2.2⟩)),(by (with_reducible repeat (first|apply Kd.N_alloc|apply Kd.N_drewN|apply Kd.N_drew));exact Kd.N_mono Bq.out (fun _ hk=>⟨hk.1,⟨hk.2.2.2.2.1,⟨hk.2.2.2.2.2.1,⟨hk.2.1,⟨hk.2.2.1,⟨hk.2.2.2.1,⟨hk.2.2.2.2.2.2.1,⟨hk.2.2.2.2.2.2.2.1,⟨hk.2.2.2.2.2.2.2.2.1,hk.2.2.2.2.2.2.2.2.2⟩⟩⟩⟩⟩⟩⟩⟩⟩)),(by (with_reducible repeat (first|apply Kd.N_alloc|apply Kd.N_drewN|apply Kd.N_drew));exact Kd.N_mono Aq.out (fun _ hk=>⟨hk.1.1.1,⟨hk.1.1.2.2.2.2.1,⟨hk.1.2,⟨hk.2,⟨hk.1.1.2.1,⟨hk.1.1.2.2.1,⟨hk.1.1.2.2.2.2.2.1,⟨hk.1.1.2.2.2.2.2.2.1,⟨hk.1.1.2.2.2.2.2.2.2.1,hk.1.1.2.2.2.2.2.2.2.2⟩⟩⟩⟩⟩⟩⟩⟩⟩)),(by (with_reducible repeat (first|apply Kd.N_alloc|apply Kd.N_drewN|apply Kd.N_drew));exact Kd.N_mono Af.out (fun _ hk=>⟨hk.1.1.1,⟨hk.1.1.2.2.2.2.1,⟨hk.1.2,⟨hk.2,⟨hk.1.1.2.1,⟨hk.1.1.2.2.1,⟨hk.1.1.2.2.2.2.2.1,⟨hk.1.1.2.2.2.2.2.2.1,⟨hk.1.1.2.2.2.2.2.2.2.1,hk.1.1.2.2.2.2.2.2.2.2⟩⟩⟩⟩⟩⟩⟩⟩⟩)),(by (with_reducible repeat (first|apply Kd.N_alloc|apply Kd.N_drewN|apply Kd.N_drew));exact Kd.N_mono Ad.out (fun _ hk=>⟨hk.1.1.1,⟨hk.1.1.2.2.2.2.1,⟨hk.1.2,⟨hk.2,⟨hk.1.1.2.1,⟨hk.1.1.2.2.1,⟨hk.1.1.2.2.2.2.2.1,⟨hk.1.1.2.2.2.2.2.2.1,⟨hk.1.1.2.2.2.2.2.2.2.1,hk.1.1.2.2.2.2.2.2.2.2⟩⟩⟩⟩⟩⟩⟩⟩⟩)),(qD Aa.out),(qD Ab.out),(qD Ai.out),(qD Aj.out),qB7⟩)
                         ·skip
                          refine Kd.N_lit_step (Kd.slice 3 (Kd.int .i64)) _ 26 ?hg3 (N':=110) ?hd3 (xs:=([Bm] : List (List Int))) (inner:=[.slice Cg Bm.length Ch]) (ok:=(fun k_=>(w.heap.size ≤ k_) ∧ some k_ ≠ (.slice B5 Az.length B6 : Value).ownBlock ∧ some k_ ≠ (.slice Bj Au.length Bk : Value).ownBlock ∧ some k_ ≠ (Am : Value).ownBlock ∧ some k_ ≠ (An : Value).ownBlock ∧ some k_ ≠ (.slice B2 Be.length B3 : Value).ownBlock ∧ k_ ≠ Ac ∧ k_ ≠ Ae ∧ k_ ≠ Ag ∧ k_ ≠ Ak)) (okp:=(fun k_=>(w.heap.size ≤ k_) ∧ some k_ ≠ (.slice B5 Az.length B6 : Value).ownBlock ∧ some k_ ≠ (.slice Bj Au.length Bk : Value).ownBlock ∧ some k_ ≠ (Am : Value).ownBlock ∧ some k_ ≠ (An : Value).ownBlock ∧ some k_ ≠ (.slice B2 Be.length B3 : Value).ownBlock ∧ k_ ≠ Ac ∧ k_ ≠ Ae ∧ k_ ≠ Ag ∧ k_ ≠ Ak)) ?hr3 ?hp3 (fun _ hk=>hk) ((show ∀ k_,w74.heap.size ≤ k_ → (fun k_=>(w.heap.size ≤ k_) ∧ some k_ ≠ (.slice B5 Az.length B6 : Value).ownBlock ∧ some k_ ≠ (.slice Bj Au.length Bk : Value).ownBlock ∧ some k_ ≠ (Am : Value).ownBlock ∧ some k_ ≠ (An : Value).ownBlock ∧ some k_ ≠ (.slice B2 Be.length B3 : Value).ownBlock ∧ k_ ≠ Ac ∧ k_ ≠ Ae ∧ k_ ≠ Ag ∧ k_ ≠ Ak) k_ from fun k_ hk=>⟨(Nat.le_trans (below_size qB7) hk),Kd.fresh' (Kd.R_lt (qR Av.out)) k_ hk,Kd.fresh' (Kd.N_lt (qN Aq.out)) k_ hk,Kd.fresh' (Kd.N_lt (qN Af.out)) k_ hk,Kd.fresh' (Kd.N_lt (qN Ad.out)) k_ hk,Kd.fresh' (Kd.R_lt (qR A2.out)) k_ hk,Kd.freshB (g:=Ac) (o:=.cells #[.int .i64 a0_0,.int .i64 a0_1,.int .i64 a0_2,.slice (some ad143) l0_3.length c0_3,.slice (some ad137) l0_4.length c0_4,.int .i64 a0_5] 25 (0,0)) (qD Aa.out) k_ hk,Kd.freshB (g:=Ae) (o:=.cells #[.int .i64 a1_0,.int .i64 a1_1,.int .i64 a1_2,.slice A1_3 l1_3.length c1_3,.slice A1_4 l1_4.length c1_4,.int .i64 a1_5] 25 (0,0)) (qD Ab.out) k_ hk,Kd.freshB (g:=Ag) (o:=.cells #[.int .i64 As,.int .i64 Ar,.int .i64 Ap,.slice none 0 0,.slice none 0 0,.int .i64 Ao] 25 (0,0)) (qD Ai.out) k_ hk,Kd.freshB (g:=Ak) (o:=.cells #[.int .i64 (wrap64 (a0_0 * a1_0)),.int .i64 a0_1,.int .i64 a1_2,Am,An,.int .i64 (wrap64 ((wrap64 (a0_5 * a1_0)) + a1_5))] 25 (0,0)) (qD Aj.out) k_ hk⟩) _ (Nat.le_refl _)) (Below.refl _ _) (Nat.le_refl _) (by simp) ?_;(case hd3=>rfl);(case hg3=>rfl);(case hr3=>first|(go_simp;done)|(go_simp;rfl));(case hp3=>first|exact (Reps.one (show Kd.FK (Kd.slice 3 (Kd.int .i64)) _ _ Bm [.slice Cg Bm.length Ch] from (Kd.FK_slice_mk (Kd.R_reads' (Kd.R_mono (ok':=(fun k_=>(w.heap.size ≤ k_) ∧ some k_ ≠ (.slice B5 Az.length B6 : Value).ownBlock ∧ some k_ ≠ (.slice Bj Au.length Bk : Value).ownBlock ∧ some k_ ≠ (Am : Value).ownBlock ∧ some k_ ≠ (An : Value).ownBlock ∧ some k_ ≠ (.slice B2 Be.length B3 : Value).ownBlock ∧ k_ ≠ Ac ∧ k_ ≠ Ae ∧ k_ ≠ Ag ∧ k_ ≠ Ak)) (Kd.R_types (Kd.R_types (Kd.R_types (Kd.R_types (Kd.R_apart' (Kd.R_apart' (Kd.R_apart' (A9.out) (Kd.N_typed Aq.out) (by decide)) (Kd.N_typed Af.out) (by decide)) (Kd.N_typed Ad.out) (by decide)) Aa.out (by decide)) Ab.out (by decide)) Ai.out (by decide)) Aj.out (by decide)) (fun k_ hk=>⟨hk.1.1.1.1.1.1.1.1.1.1,⟨hk.1.1.1.1.1.1.1.1.2,⟨hk.1.1.1.1.1.1.2,⟨hk.1.1.1.1.1.2,⟨hk.1.1.1.1.2,⟨hk.1.1.1.1.1.1.1.2,⟨hk.1.1.1.2,⟨hk.1.1.2,⟨hk.1.2,hk.2⟩⟩⟩⟩⟩⟩⟩⟩⟩))).2.1 (Kd.R_F (Kd.R_mono (ok':=(fun k_=>(w.heap.size ≤ k_) ∧ some k_ ≠ (.slice B5 Az.length B6 : Value).ownBlock ∧ some k_ ≠ (.slice Bj Au.length Bk : Value).ownBlock ∧ some k_ ≠ (Am : Value).ownBlock ∧ some k_ ≠ (An : Value).ownBlock ∧ some k_ ≠ (.slice B2 Be.length B3 : Value).ownBlock ∧ k_ ≠ Ac ∧ k_ ≠ Ae ∧ k_ ≠ Ag ∧ k_ ≠ Ak)) (Kd.R_types (Kd.R_types (Kd.R_types (Kd.R_types (Kd.R_apart' (Kd.R_apart' (Kd.R_apart' (A9.out) (Kd.N_typed Aq.out) (by decide)) (Kd.N_typed Af.out) (by decide)) (Kd.N_typed Ad.out) (by decide)) Aa.out (by decide)) Ab.out (by decide)) Ai.out (by decide)) Aj.out (by decide)) (fun k_ hk=>⟨hk.1.1.1.1.1.1.1.1.1.1,⟨hk.1.1.1.1.1.1.1.1.2,⟨hk.1.1.1.1.1.1.2,⟨hk.1.1.1.1.1.2,⟨hk.1.1.1.1.2,⟨hk.1.1.1.1.1.1.1.2,⟨hk.1.1.1.2,⟨hk.1.1.2,⟨hk.1.2,hk.2⟩⟩⟩⟩⟩⟩⟩⟩⟩))))) (Reps.none _ _))|exact (Reps.one (show Kd.FK (Kd.slice 3 (Kd.int .i64)) _ _ Bm [.slice Cg Bm.length Ch] from (Kd.FK_slice_mk (Kd.R_reads' (Kd.R_mono (ok':=(fun k_=>(w.heap.size ≤ k_) ∧ some k_ ≠ (.slice B5 Az.length B6 : Value).ownBlock ∧ some k_ ≠ (.slice Bj Au.length Bk : Value).ownBlock ∧ some k_ ≠ (Am : Value).ownBlock ∧ some k_ ≠ (An : Value).ownBlock ∧ some k_ ≠ (.slice B2 Be.length B3 : Value).ownBlock ∧ k_ ≠ Ac ∧ k_ ≠ Ae ∧ k_ ≠ Ag ∧ k_ ≠ Ak)) (Kd.R_types (Kd.R_types (Kd.R_types (Kd.R_types (Kd.R_apart' (Kd.R_apart' (Kd.R_apart' (A9.out) (Kd.N_typed Aq.out) (by decide)) (Kd.N_typed Af.out) (by decide)) (Kd.N_typed Ad.out) (by decide)) Aa.out (by decide)) Ab.out (by decide)) Ai.out (by decide)) Aj.out (by decide)) (fun k_ hk=>⟨hk.1.1.1.1.1.1.1.1.1.1,⟨hk.1.1.1.1.1.1.1.1.2,⟨hk.1.1.1.1.1.1.2,⟨hk.1.1.1.1.1.2,⟨hk.1.1.1.1.2,⟨hk.1.1.1.1.1.1.1.2,⟨hk.1.1.1.2,⟨hk.1.1.2,⟨hk.1.2,hk.2⟩⟩⟩⟩⟩⟩⟩⟩⟩))).2.1 (Kd.R_F (Kd.R_mono (ok':=(fun k_=>(w.heap.size ≤ k_) ∧ some k_ ≠ (.slice B5 Az.length B6 : Value).ownBlock ∧ some k_ ≠ (.slice Bj Au.length Bk : Value).ownBlock ∧ some k_ ≠ (Am : Value).ownBlock ∧ some k_ ≠ (An : Value).ownBlock ∧ some k_ ≠ (.slice B2 Be.length B3 : Value).ownBlock ∧ k_ ≠ Ac ∧ k_ ≠ Ae ∧ k_ ≠ Ag ∧ k_ ≠ Ak)) (Kd.R_types (Kd.R_types (Kd.R_types (Kd.R_types (Kd.R_apart' (Kd.R_apart' (Kd.R_apart' (A9.out) (Kd.N_typed Aq.out) (by decide)) (Kd.N_typed Af.out) (by decide)) (Kd.N_typed Ad.out) (by decide)) Aa.out (by decide)) Ab.out (by decide)) Ai.out (by decide)) Aj.out (by decide)) (fun k_ hk=>⟨hk.1.1.1.1.1.1.1.1.1.1,⟨hk.1.1.1.1.1.1.1.1.2,⟨hk.1.1.1.1.1.1.2,⟨hk.1.1.1.1.1.2,⟨hk.1.1.1.1.2,⟨hk.1.1.1.1.1.1.1.2,⟨hk.1.1.1.2,⟨hk.1.1.2,⟨hk.1.2,hk.2⟩⟩⟩⟩⟩⟩⟩⟩⟩))))) (Reps.none _ _)))
                          intro v152 w76 ho77 hb hg_ hnew_
                          clear hg_ hnew_
                          (first|rw [← Ny151.out] at ho77|(simp only [Int.reduceToNat] at ho77;rw [← Ny151.out] at ho77))
                          have n0_:=Aside0.mk (Kd.R_below (qR Av.out) hb)
                          have n1_:=Aside0.mk (Kd.N_elder' (qN Aq.out) (Kd.N_base ho77) hb)
                          have n2_:=Aside0.mk (Kd.N_elder' (qN Af.out) (Kd.N_base ho77) hb)
                          have n3_:=Aside0.mk (Kd.N_elder' (qN Ad.out) (Kd.N_base ho77) hb)
                          have n4_:=Aside0.mk (Kd.R_below (qR A2.out) hb)
                          have n5_:=Aside0.mk (Kd.N_lower ho77 (below_size qB7))
                          have n6_:=Aside0.mk (blk_below (qD Aa.out) hb)
                          have n7_:=Aside0.mk (blk_below (qD Ab.out) hb)
                          have n8_:=Aside0.mk (blk_below (qD Ai.out) hb)
                          have n9_:=Aside0.mk (blk_below (qD Aj.out) hb)
                          have n10_:=Aside0.mk (below_step qB7 hb)
                          clear Av
                          clear Aq
                          clear Af
                          clear Ad
                          clear A2
                          clear Aa
                          clear Ab
                          clear Ai
                          clear Aj
                          clear HB
                          clear A9
                          have Av:=n0_
                          have Aq:=n1_
                          have Af:=n2_
                          have Ad:=n3_
                          have A2:=n4_
                          have Bq:=n5_
                          have Aa:=n6_
                          have Ab:=n7_
                          have Ai:=n8_
                          have Aj:=n9_
                          have HB:=n10_
                          clear n0_ n1_ n2_ n3_ n4_ n5_ n6_ n7_ n8_ n9_ n10_
                          clear hb ho77
                          obtain ⟨Ci,Cj,eo79⟩:=Kd.R_slice A2.out
                          (first|subst eo79|(injection eo79 with f1_ f2_ f3_;have f4_:=f1_.symm;have f5_:=f3_.symm;clear f1_ f2_ f3_;subst f4_;subst f5_))
                          refine hK.out _ _ ⟨(blk_cell Aa.out 0).trans rfl,(blk_cell Aa.out 1).trans rfl,(blk_cell Aa.out 2).trans rfl,(blk_cell Aa.out 3).trans rfl,(blk_cell Aa.out 4).trans rfl,(blk_cell Aa.out 5).trans rfl,(blk_cell Ab.out 0).trans rfl,(blk_cell Ab.out 1).trans rfl,(blk_cell Ab.out 2).trans rfl,(blk_cell Ab.out 3).trans rfl,(blk_cell Ab.out 4).trans rfl,(blk_cell Ab.out 5).trans rfl,((HB.out.cell (World.block_lt_of_cell? w _ hw143_0)).trans hw143_0),((HB.out.cell (World.block_lt_of_cell? w _ hw144_0)).trans hw144_0)⟩ (fun hHeld=>?_)
                          clear hK K
                          refine norm_ (a':=?_) ?_ ?_
                          rotate_left
                          ·show Act.put _ (some 110) _ = _
                           simp only [Act.put,List.setIfInBounds_toArray,List.set_cons_zero,List.set_cons_succ,i64_w,i32_w]
                           rfl
                          refine one_ (i:=15) (N:=some 107) #[true,true,true,true,true,true,true,true,true,true,true,true,true,true,true,true,true,true,true,false,false,false] rfl rfl (one_of HT_.out (by kernel_rfl)) (by decide) (fun K hK=>?_)
                          refine Kd.R_append_rows_step (Kd.int .i64) (w0:=w) w.heap.size (by rfl) (.tmp 92) (.tmp 106) 26 3 (.int .i64 0) 8 rfl Try.underlying26 info3 rfl (by decide) (by omega) (.slice B5 Az.length B6) Az Be _ _ _ (fun k_=>(w.heap.size ≤ k_) ∧ some k_ ≠ (.slice Ci Be.length Cj : Value).ownBlock) (fun _=>False) rfl rfl ?aO ?aR (fun _ _ h=>h) (fun _ h=>h.elim) ?aF ?aB ?aS ?aL ?_
                          (case aR=>repeat (first|exact (Kd.R_reads' A2.out).2.2|(with_reducible refine Kd.C_alloc ?_ _)|(with_reducible refine Kd.C_drewN ?_ _)|(with_reducible refine Kd.C_drew ?_)))
                          (case aB=>exact qB7)
                          (case aF=>exact (fun k_ hk=>⟨(Nat.le_trans (below_size qB7) hk),Kd.fresh' (Kd.R_lt (qR A2.out)) k_ hk⟩))
                          (case aO=>exact (by (with_reducible repeat (first|apply Kd.R_alloc|apply Kd.R_drewN|apply Kd.R_drew));exact Kd.R_mono Av.out (fun _ hk=>⟨hk.1.1,hk.2⟩)))
                          (case aS=>exact (below_size qB7))
                          (case aL=>have:=LMc66.out;omega)
                          intro v149 w78 ho hb hg hat
                          rw [← Ny148.out] at ho
                          have n0_:=Aside0.mk (Kd.N_afterv (ok:=(fun k_=>(w.heap.size ≤ k_) ∧ some k_ ≠ (Am : Value).ownBlock ∧ some k_ ≠ (An : Value).ownBlock ∧ some k_ ≠ (.slice Ci Be.length Cj : Value).ownBlock ∧ some k_ ≠ (v152 : Value).ownBlock ∧ k_ ≠ Ac ∧ k_ ≠ Ae ∧ k_ ≠ Ag ∧ k_ ≠ Ak)) (by (with_reducible repeat (first|apply Kd.N_alloc|apply Kd.N_drewN|apply Kd.N_drew));exact Kd.N_mono Aq.out (fun _ hk=>⟨⟨hk.1.1.1.1,⟨hk.1.1.1.2.2.1,⟨hk.1.1.1.2.2.2.1,⟨hk.1.2,⟨hk.2,⟨hk.1.1.1.2.2.2.2.1,⟨hk.1.1.1.2.2.2.2.2.1,⟨hk.1.1.1.2.2.2.2.2.2.1,hk.1.1.1.2.2.2.2.2.2.2⟩⟩⟩⟩⟩⟩⟩⟩,hk.1.1.1.2.1⟩)) hg hat)
                          have n1_:=Aside0.mk (Kd.N_afterv (ok:=(fun k_=>(w.heap.size ≤ k_) ∧ some k_ ≠ (.slice Bj Au.length Bk : Value).ownBlock ∧ some k_ ≠ (An : Value).ownBlock ∧ some k_ ≠ (.slice Ci Be.length Cj : Value).ownBlock ∧ some k_ ≠ (v152 : Value).ownBlock ∧ k_ ≠ Ac ∧ k_ ≠ Ae ∧ k_ ≠ Ag ∧ k_ ≠ Ak)) (by (with_reducible repeat (first|apply Kd.N_alloc|apply Kd.N_drewN|apply Kd.N_drew));exact Kd.N_mono Af.out (fun _ hk=>⟨⟨hk.1.1.1.1,⟨hk.1.1.1.2.2.1,⟨hk.1.1.1.2.2.2.1,⟨hk.1.2,⟨hk.2,⟨hk.1.1.1.2.2.2.2.1,⟨hk.1.1.1.2.2.2.2.2.1,⟨hk.1.1.1.2.2.2.2.2.2.1,hk.1.1.1.2.2.2.2.2.2.2⟩⟩⟩⟩⟩⟩⟩⟩,hk.1.1.1.2.1⟩)) hg hat)
                          have n2_:=Aside0.mk (Kd.N_afterv (ok:=(fun k_=>(w.heap.size ≤ k_) ∧ some k_ ≠ (.slice Bj Au.length Bk : Value).ownBlock ∧ some k_ ≠ (Am : Value).ownBlock ∧ some k_ ≠ (.slice Ci Be.length Cj : Value).ownBlock ∧ some k_ ≠ (v152 : Value).ownBlock ∧ k_ ≠ Ac ∧ k_ ≠ Ae ∧ k_ ≠ Ag ∧ k_ ≠ Ak)) (by (with_reducible repeat (first|apply Kd.N_alloc|apply Kd.N_drewN|apply Kd.N_drew));exact Kd.N_mono Ad.out (fun _ hk=>⟨⟨hk.1.1.1.1,⟨hk.1.1.1.2.2.1,⟨hk.1.1.1.2.2.2.1,⟨hk.1.2,⟨hk.2,⟨hk.1.1.1.2.2.2.2.1,⟨hk.1.1.1.2.2.2.2.2.1,⟨hk.1.1.1.2.2.2.2.2.2.1,hk.1.1.1.2.2.2.2.2.2.2⟩⟩⟩⟩⟩⟩⟩⟩,hk.1.1.1.2.1⟩)) hg hat)
                          have n3_:=Aside0.mk (blk_grown (g:=Ac) (o:=.cells #[.int .i64 a0_0,.int .i64 a0_1,.int .i64 a0_2,.slice (some ad143) l0_3.length c0_3,.slice (some ad137) l0_4.length c0_4,.int .i64 a0_5] 25 (0,0)) (qD Aa.out) hg (Kd.R_ne Av.out Aa.out (by decide)))
                          have n4_:=Aside0.mk (blk_grown (g:=Ae) (o:=.cells #[.int .i64 a1_0,.int .i64 a1_1,.int .i64 a1_2,.slice A1_3 l1_3.length c1_3,.slice A1_4 l1_4.length c1_4,.int .i64 a1_5] 25 (0,0)) (qD Ab.out) hg (Kd.R_ne Av.out Ab.out (by decide)))
                          have n5_:=Aside0.mk (blk_grown (g:=Ag) (o:=.cells #[.int .i64 As,.int .i64 Ar,.int .i64 Ap,.slice none 0 0,.slice none 0 0,.int .i64 Ao] 25 (0,0)) (qD Ai.out) hg (Kd.R_ne Av.out Ai.out (by decide)))
                          have n6_:=Aside0.mk (blk_grown (g:=Ak) (o:=.cells #[.int .i64 (wrap64 (a0_0 * a1_0)),.int .i64 a0_1,.int .i64 a1_2,Am,An,.int .i64 (wrap64 ((wrap64 (a0_5 * a1_0)) + a1_5))] 25 (0,0)) (qD Aj.out) hg (Kd.R_ne Av.out Aj.out (by decide)))
                          have n7_:=Aside0.mk (Kd.R_after (ok:=(fun k_=>(w.heap.size ≤ k_))) (by (with_reducible repeat (first|apply Kd.R_alloc|apply Kd.R_drewN|apply Kd.R_drew));exact Kd.R_mono A2.out (fun _ hk=>⟨hk.1.1.1,hk.1.2⟩)) hg hat)
                          have n8_:=Aside0.mk (Kd.N_afterv (ok:=(fun k_=>(w.heap.size ≤ k_) ∧ some k_ ≠ (.slice Bj Au.length Bk : Value).ownBlock ∧ some k_ ≠ (Am : Value).ownBlock ∧ some k_ ≠ (An : Value).ownBlock ∧ some k_ ≠ (.slice Ci Be.length Cj : Value).ownBlock ∧ k_ ≠ Ac ∧ k_ ≠ Ae ∧ k_ ≠ Ag ∧ k_ ≠ Ak)) (by (with_reducible repeat (first|apply Kd.N_alloc|apply Kd.N_drewN|apply Kd.N_drew));exact Kd.N_mono Bq.out (fun _ hk=>⟨⟨hk.1,⟨hk.2.2.1,⟨hk.2.2.2.1,⟨hk.2.2.2.2.1,⟨hk.2.2.2.2.2.1,⟨hk.2.2.2.2.2.2.1,⟨hk.2.2.2.2.2.2.2.1,⟨hk.2.2.2.2.2.2.2.2.1,hk.2.2.2.2.2.2.2.2.2⟩⟩⟩⟩⟩⟩⟩⟩,hk.2.1⟩)) hg hat)
                          have n9_:=Aside0.mk (hb)
                          have n10_:=Aside0.mk (ho)
                          clear Aq
                          clear Af
                          clear Ad
                          clear Aa
                          clear Ab
                          clear Ai
                          clear Aj
                          clear A2
                          clear Bq
                          clear HB
                          clear Av
                          have Aq:=n0_
                          have Af:=n1_
                          have Ad:=n2_
                          have Aa:=n3_
                          have Ab:=n4_
                          have Ai:=n5_
                          have Aj:=n6_
                          have A2:=n7_
                          have Bq:=n8_
                          have HB:=n9_
                          have Bx:=n10_
                          clear n0_ n1_ n2_ n3_ n4_ n5_ n6_ n7_ n8_ n9_ n10_
                          clear ho hb hg hat
                          refine hK.out _ _ ⟨(blk_cell Aa.out 0).trans rfl,(blk_cell Aa.out 1).trans rfl,(blk_cell Aa.out 2).trans rfl,(blk_cell Aa.out 3).trans rfl,(blk_cell Aa.out 4).trans rfl,(blk_cell Aa.out 5).trans rfl,(blk_cell Ab.out 0).trans rfl,(blk_cell Ab.out 1).trans rfl,(blk_cell Ab.out 2).trans rfl,(blk_cell Ab.out 3).trans rfl,(blk_cell Ab.out 4).trans rfl,(blk_cell Ab.out 5).trans rfl,((HB.out.cell (World.block_lt_of_cell? w _ hw143_0)).trans hw143_0),((HB.out.cell (World.block_lt_of_cell? w _ hw144_0)).trans hw144_0)⟩ (fun hHeld=>?_)
                          clear hK K
                          refine norm_ (a':=?_) ?_ ?_
                          rotate_left
                          ·show Act.put _ (some 107) _ = _
                           simp only [Act.put,List.setIfInBounds_toArray,List.set_cons_zero,List.set_cons_succ,i64_w,i32_w]
                           rfl
                          exact norm_ (by simp only [putAll,Act.put,List.setIfInBounds_toArray,List.set_cons_zero,List.set_cons_succ]) (hCont (.slice Ci Be.length Cj,v149,v152) _ ⟨hHeld,(qR A2.out),(qR Bx.out),(by (with_reducible repeat (first|apply Kd.N_alloc|apply Kd.N_drewN|apply Kd.N_drew));exact Kd.N_mono Bq.out (fun _ hk=>⟨hk.1.1,⟨hk.1.2.2.2.2.1,⟨hk.2,⟨hk.1.2.1,⟨hk.1.2.2.1,⟨hk.1.2.2.2.1,⟨hk.1.2.2.2.2.2.1,⟨hk.1.2.2.2.2.2.2.1,⟨hk.1.2.2.2.2.2.2.2.1,hk.1.2.2.2.2.2.2.2.2⟩⟩⟩⟩⟩⟩⟩⟩⟩)),(by (with_reducible repeat (first|apply Kd.N_alloc|apply Kd.N_drewN|apply Kd.N_drew));exact Kd.N_mono Aq.out (fun _ hk=>⟨hk.1.1,⟨hk.1.2.2.2.1,⟨hk.2,⟨hk.1.2.2.2.2.1,⟨hk.1.2.1,⟨hk.1.2.2.1,⟨hk.1.2.2.2.2.2.1,⟨hk.1.2.2.2.2.2.2.1,⟨hk.1.2.2.2.2.2.2.2.1,hk.1.2.2.2.2.2.2.2.2⟩⟩⟩⟩⟩⟩⟩⟩⟩)),(by (with_reducible repeat (first|apply Kd.N_alloc|apply Kd.N_drewN|apply Kd.N_drew));exact Kd.N_mono Af.out (fun _ hk=>⟨hk.1.1,⟨hk.1.2.2.2.1,⟨hk.2,⟨hk.1.2.2.2.2.1,⟨hk.1.2.1,⟨hk.1.2.2.1,⟨hk.1.2.2.2.2.2.1,⟨hk.1.2.2.2.2.2.2.1,⟨hk.1.2.2.2.2.2.2.2.1,hk.1.2.2.2.2.2.2.2.2⟩⟩⟩⟩⟩⟩⟩⟩⟩)),(by (with_reducible repeat (first|apply Kd.N_alloc|apply Kd.N_drewN|apply Kd.N_drew));exact Kd.N_mono Ad.out (fun _ hk=>⟨hk.1.1,⟨hk.1.2.2.2.1,⟨hk.2,⟨hk.1.2.2.2.2.1,⟨hk.1.2.1,⟨hk.1.2.2.1,⟨hk.1.2.2.2.2.2.1,⟨hk.1.2.2.2.2.2.2.1,⟨hk.1.2.2.2.2.2.2.2.1,hk.1.2.2.2.2.2.2.2.2⟩⟩⟩⟩⟩⟩⟩⟩⟩)),(qD Aa.out),(qD Ab.out),(qD Ai.out),(qD Aj.out),qB7⟩)
                        ·skip
                         refine Kd.N_lit_step (Kd.slice 3 (Kd.int .i64)) _ 26 ?hg4 (N':=110) ?hd4 (xs:=([Bm] : List (List Int))) (inner:=[.slice Cg Bm.length Ch]) (ok:=(fun k_=>(w.heap.size ≤ k_) ∧ some k_ ≠ (.slice B5 Az.length B6 : Value).ownBlock ∧ some k_ ≠ (.slice Bj Au.length Bk : Value).ownBlock ∧ some k_ ≠ (Am : Value).ownBlock ∧ some k_ ≠ (An : Value).ownBlock ∧ k_ ≠ Ac ∧ k_ ≠ Ae ∧ k_ ≠ Ag ∧ k_ ≠ Ak)) (okp:=(fun k_=>(w.heap.size ≤ k_) ∧ some k_ ≠ (.slice B5 Az.length B6 : Value).ownBlock ∧ some k_ ≠ (.slice Bj Au.length Bk : Value).ownBlock ∧ some k_ ≠ (Am : Value).ownBlock ∧ some k_ ≠ (An : Value).ownBlock ∧ k_ ≠ Ac ∧ k_ ≠ Ae ∧ k_ ≠ Ag ∧ k_ ≠ Ak)) ?hr4 ?hp4 (fun _ hk=>hk) ((show ∀ k_,w73.heap.size ≤ k_ → (fun k_=>(w.heap.size ≤ k_) ∧ some k_ ≠ (.slice B5 Az.length B6 : Value).ownBlock ∧ some k_ ≠ (.slice Bj Au.length Bk : Value).ownBlock ∧ some k_ ≠ (Am : Value).ownBlock ∧ some k_ ≠ (An : Value).ownBlock ∧ k_ ≠ Ac ∧ k_ ≠ Ae ∧ k_ ≠ Ag ∧ k_ ≠ Ak) k_ from fun k_ hk=>⟨(Nat.le_trans (below_size qB7) hk),Kd.fresh' (Kd.R_lt (qR Av.out)) k_ hk,Kd.fresh' (Kd.N_lt (qN Aq.out)) k_ hk,Kd.fresh' (Kd.N_lt (qN Af.out)) k_ hk,Kd.fresh' (Kd.N_lt (qN Ad.out)) k_ hk,Kd.freshB (g:=Ac) (o:=.cells #[.int .i64 a0_0,.int .i64 a0_1,.int .i64 a0_2,.slice (some ad143) l0_3.length c0_3,.slice (some ad137) l0_4.length c0_4,.int .i64 a0_5] 25 (0,0)) (qD Aa.out) k_ hk,Kd.freshB (g:=Ae) (o:=.cells #[.int .i64 a1_0,.int .i64 a1_1,.int .i64 a1_2,.slice A1_3 l1_3.length c1_3,.slice A1_4 l1_4.length c1_4,.int .i64 a1_5] 25 (0,0)) (qD Ab.out) k_ hk,Kd.freshB (g:=Ag) (o:=.cells #[.int .i64 As,.int .i64 Ar,.int .i64 Ap,.slice none 0 0,.slice none 0 0,.int .i64 Ao] 25 (0,0)) (qD Ai.out) k_ hk,Kd.freshB (g:=Ak) (o:=.cells #[.int .i64 (wrap64 (a0_0 * a1_0)),.int .i64 a0_1,.int .i64 a1_2,Am,An,.int .i64 (wrap64 ((wrap64 (a0_5 * a1_0)) + a1_5))] 25 (0,0)) (qD Aj.out) k_ hk⟩) _ (Nat.le_refl _)) (Below.refl _ _) (Nat.le_refl _) (by simp) ?_;(case hd4=>rfl);(case hg4=>rfl);(case hr4=>first|(go_simp;done)|(go_simp;rfl));(case hp4=>first|exact (Reps.one (show Kd.FK (Kd.slice 3 (Kd.int .i64)) _ _ Bm [.slice Cg Bm.length Ch] from (Kd.FK_slice_mk (Kd.R_reads' (Kd.R_mono (ok':=(fun k_=>(w.heap.size ≤ k_) ∧ some k_ ≠ (.slice B5 Az.length B6 : Value).ownBlock ∧ some k_ ≠ (.slice Bj Au.length Bk : Value).ownBlock ∧ some k_ ≠ (Am : Value).ownBlock ∧ some k_ ≠ (An : Value).ownBlock ∧ k_ ≠ Ac ∧ k_ ≠ Ae ∧ k_ ≠ Ag ∧ k_ ≠ Ak)) (Kd.R_types (Kd.R_types (Kd.R_types (Kd.R_types (Kd.R_apart' (Kd.R_apart' (Kd.R_apart' (A9.out) (Kd.N_typed Aq.out) (by decide)) (Kd.N_typed Af.out) (by decide)) (Kd.N_typed Ad.out) (by decide)) Aa.out (by decide)) Ab.out (by decide)) Ai.out (by decide)) Aj.out (by decide)) (fun k_ hk=>⟨hk.1.1.1.1.1.1.1.1.1,⟨hk.1.1.1.1.1.1.1.2,⟨hk.1.1.1.1.1.1.2,⟨hk.1.1.1.1.1.2,⟨hk.1.1.1.1.2,⟨hk.1.1.1.2,⟨hk.1.1.2,⟨hk.1.2,hk.2⟩⟩⟩⟩⟩⟩⟩⟩))).2.1 (Kd.R_F (Kd.R_mono (ok':=(fun k_=>(w.heap.size ≤ k_) ∧ some k_ ≠ (.slice B5 Az.length B6 : Value).ownBlock ∧ some k_ ≠ (.slice Bj Au.length Bk : Value).ownBlock ∧ some k_ ≠ (Am : Value).ownBlock ∧ some k_ ≠ (An : Value).ownBlock ∧ k_ ≠ Ac ∧ k_ ≠ Ae ∧ k_ ≠ Ag ∧ k_ ≠ Ak)) (Kd.R_types (Kd.R_types (Kd.R_types (Kd.R_types (Kd.R_apart' (Kd.R_apart' (Kd.R_apart' (A9.out) (Kd.N_typed Aq.out) (by decide)) (Kd.N_typed Af.out) (by decide)) (Kd.N_typed Ad.out) (by decide)) Aa.out (by decide)) Ab.out (by decide)) Ai.out (by decide)) Aj.out (by decide)) (fun k_ hk=>⟨hk.1.1.1.1.1.1.1.1.1,⟨hk.1.1.1.1.1.1.1.2,⟨hk.1.1.1.1.1.1.2,⟨hk.1.1.1.1.1.2,⟨hk.1.1.1.1.2,⟨hk.1.1.1.2,⟨hk.1.1.2,⟨hk.1.2,hk.2⟩⟩⟩⟩⟩⟩⟩⟩))))) (Reps.none _ _))|exact (Reps.one (show Kd.FK (Kd.slice 3 (Kd.int .i64)) _ _ Bm [.slice Cg Bm.length Ch] from (Kd.FK_slice_mk (Kd.R_reads' (Kd.R_mono (ok':=(fun k_=>(w.heap.size ≤ k_) ∧ some k_ ≠ (.slice B5 Az.length B6 : Value).ownBlock ∧ some k_ ≠ (.slice Bj Au.length Bk : Value).ownBlock ∧ some k_ ≠ (Am : Value).ownBlock ∧ some k_ ≠ (An : Value).ownBlock ∧ k_ ≠ Ac ∧ k_ ≠ Ae ∧ k_ ≠ Ag ∧ k_ ≠ Ak)) (Kd.R_types (Kd.R_types (Kd.R_types (Kd.R_types (Kd.R_apart' (Kd.R_apart' (Kd.R_apart' (A9.out) (Kd.N_typed Aq.out) (by decide)) (Kd.N_typed Af.out) (by decide)) (Kd.N_typed Ad.out) (by decide)) Aa.out (by decide)) Ab.out (by decide)) Ai.out (by decide)) Aj.out (by decide)) (fun k_ hk=>⟨hk.1.1.1.1.1.1.1.1.1,⟨hk.1.1.1.1.1.1.1.2,⟨hk.1.1.1.1.1.1.2,⟨hk.1.1.1.1.1.2,⟨hk.1.1.1.1.2,⟨hk.1.1.1.2,⟨hk.1.1.2,⟨hk.1.2,hk.2⟩⟩⟩⟩⟩⟩⟩⟩))).2.1 (Kd.R_F (Kd.R_mono (ok':=(fun k_=>(w.heap.size ≤ k_) ∧ some k_ ≠ (.slice B5 Az.length B6 : Value).ownBlock ∧ some k_ ≠ (.slice Bj Au.length Bk : Value).ownBlock ∧ some k_ ≠ (Am : Value).ownBlock ∧ some k_ ≠ (An : Value).ownBlock ∧ k_ ≠ Ac ∧ k_ ≠ Ae ∧ k_ ≠ Ag ∧ k_ ≠ Ak)) (Kd.R_types (Kd.R_types (Kd.R_types (Kd.R_types (Kd.R_apart' (Kd.R_apart' (Kd.R_apart' (A9.out) (Kd.N_typed Aq.out) (by decide)) (Kd.N_typed Af.out) (by decide)) (Kd.N_typed Ad.out) (by decide)) Aa.out (by decide)) Ab.out (by decide)) Ai.out (by decide)) Aj.out (by decide)) (fun k_ hk=>⟨hk.1.1.1.1.1.1.1.1.1,⟨hk.1.1.1.1.1.1.1.2,⟨hk.1.1.1.1.1.1.2,⟨hk.1.1.1.1.1.2,⟨hk.1.1.1.1.2,⟨hk.1.1.1.2,⟨hk.1.1.2,⟨hk.1.2,hk.2⟩⟩⟩⟩⟩⟩⟩⟩))))) (Reps.none _ _)))
                         intro v152 w74 ho75 hb hg_ hnew_
                         clear hg_ hnew_
                         (first|rw [← Ny151.out] at ho75|(simp only [Int.reduceToNat] at ho75;rw [← Ny151.out] at ho75))
                         have n0_:=Aside0.mk (Kd.R_below (qR Av.out) hb)
                         have n1_:=Aside0.mk (Kd.N_elder' (qN Aq.out) (Kd.N_base ho75) hb)
                         have n2_:=Aside0.mk (Kd.N_elder' (qN Af.out) (Kd.N_base ho75) hb)
                         have n3_:=Aside0.mk (Kd.N_elder' (qN Ad.out) (Kd.N_base ho75) hb)
                         have n4_:=Aside0.mk (Kd.N_lower ho75 (below_size qB7))
                         have n5_:=Aside0.mk (blk_below (qD Aa.out) hb)
                         have n6_:=Aside0.mk (blk_below (qD Ab.out) hb)
                         have n7_:=Aside0.mk (blk_below (qD Ai.out) hb)
                         have n8_:=Aside0.mk (blk_below (qD Aj.out) hb)
                         have n9_:=Aside0.mk (below_step qB7 hb)
                         clear Av
                         clear Aq
                         clear Af
                         clear Ad
                         clear Aa
                         clear Ab
                         clear Ai
                         clear Aj
                         clear HB
                         clear A9
                         have Av:=n0_
                         have Aq:=n1_
                         have Af:=n2_
                         have Ad:=n3_
                         have Bq:=n4_
                         have Aa:=n5_
                         have Ab:=n6_
                         have Ai:=n7_
                         have Aj:=n8_
                         have HB:=n9_
                         clear n0_ n1_ n2_ n3_ n4_ n5_ n6_ n7_ n8_ n9_
                         clear hb ho75
                         refine hK.out _ _ ⟨(blk_cell Aa.out 0).trans rfl,(blk_cell Aa.out 1).trans rfl,(blk_cell Aa.out 2).trans rfl,(blk_cell Aa.out 3).trans rfl,(blk_cell Aa.out 4).trans rfl,(blk_cell Aa.out 5).trans rfl,(blk_cell Ab.out 0).trans rfl,(blk_cell Ab.out 1).trans rfl,(blk_cell Ab.out 2).trans rfl,(blk_cell Ab.out 3).trans rfl,(blk_cell Ab.out 4).trans rfl,(blk_cell Ab.out 5).trans rfl,((HB.out.cell (World.block_lt_of_cell? w _ hw143_0)).trans hw143_0),((HB.out.cell (World.block_lt_of_cell? w _ hw144_0)).trans hw144_0)⟩ (fun hHeld=>?_)
                         clear hK K
                         refine norm_ (a':=?_) ?_ ?_
                         rotate_left
                         ·show Act.put _ (some 110) _ = _
                          simp only [Act.put,List.setIfInBounds_toArray,List.set_cons_zero,List.set_cons_succ,i64_w,i32_w]
                          rfl
                         refine one_ (i:=14) (N:=some 106) #[true,true,true,true,true,true,true,true,true,true,true,true,true,true,true,false,true,true,true,false,false,false] rfl rfl (one_of HT_.out (by kernel_rfl)) (by decide) (fun K hK=>?_)
                         refine Kd.R_lit_step (Kd.int .i64) _ 3 ?hg5 (N:=106) ?hd5 (xs:=([wrap64 ((wrap64 ((rd (rd_L1 l0_3 At) Ay) * a1_0)) + Cl)] : List Int)) (inner:=[.int .i64 (wrap64 ((wrap64 ((rd (rd_L1 l0_3 At) Ay) * a1_0)) + Cl))]) (ok:=fun _=>True) (okp:=fun _=>True) ?hr5 ?hp5 (fun _ hk=>hk) trivial (Below.refl _ _) (Nat.le_refl _) (by simp) ?_;(case hd5=>rfl);(case hg5=>rfl);(case hr5=>first|(go_simp;done)|(go_simp;rfl));(case hp5=>exact (Reps.one (show Kd.M (Kd.int .i64) _ _ _ (wrap64 ((wrap64 ((rd (rd_L1 l0_3 At) Ay) * a1_0)) + Cl)) [.int .i64 (wrap64 ((wrap64 ((rd (rd_L1 l0_3 At) Ay) * a1_0)) + Cl))] from rfl) (Reps.none _ _)))
                         intro v146 w76 ho77 hb hg_ hnew_
                         clear hg_ hnew_
                         (first|rw [← Ny145.out] at ho77|(simp only [Int.reduceToNat] at ho77;rw [← Ny145.out] at ho77))
                         have n0_:=Aside0.mk (Kd.R_elder' (qR Av.out) (Kd.R_base ho77) hb)
                         have n1_:=Aside0.mk (Kd.N_elder' (qN Aq.out) (Kd.R_base ho77) hb)
                         have n2_:=Aside0.mk (Kd.N_elder' (qN Af.out) (Kd.R_base ho77) hb)
                         have n3_:=Aside0.mk (Kd.N_elder' (qN Ad.out) (Kd.R_base ho77) hb)
                         have n4_:=Aside0.mk (Kd.N_elder' (qN Bq.out) (Kd.R_base ho77) hb)
                         have n5_:=Aside0.mk (Kd.R_lower (Kd.R_new' (Kd.R_newM (M:=fun k_=>(w.heap.size ≤ k_)) ho77 (below_size qB7) (fun k_ h_=>h_)) (Kd.R_lt (qR Av.out))) (below_size qB7))
                         have n6_:=Aside0.mk (blk_below (qD Aa.out) hb)
                         have n7_:=Aside0.mk (blk_below (qD Ab.out) hb)
                         have n8_:=Aside0.mk (blk_below (qD Ai.out) hb)
                         have n9_:=Aside0.mk (blk_below (qD Aj.out) hb)
                         have n10_:=Aside0.mk (below_step qB7 hb)
                         clear Av
                         clear Aq
                         clear Af
                         clear Ad
                         clear Bq
                         clear Aa
                         clear Ab
                         clear Ai
                         clear Aj
                         clear HB
                         have Av:=n0_
                         have Aq:=n1_
                         have Af:=n2_
                         have Ad:=n3_
                         have Bq:=n4_
                         have A2:=n5_
                         have Aa:=n6_
                         have Ab:=n7_
                         have Ai:=n8_
                         have Aj:=n9_
                         have HB:=n10_
                         clear n0_ n1_ n2_ n3_ n4_ n5_ n6_ n7_ n8_ n9_ n10_
                         clear hb ho77
                         obtain ⟨Ci,Cj,eo79⟩:=Kd.R_slice A2.out
                         (first|subst eo79|(injection eo79 with f1_ f2_ f3_;have f4_:=f1_.symm;have f5_:=f3_.symm;clear f1_ f2_ f3_;subst f4_;subst f5_))
                         refine hK.out _ _ ⟨(blk_cell Aa.out 0).trans rfl,(blk_cell Aa.out 1).trans rfl,(blk_cell Aa.out 2).trans rfl,(blk_cell Aa.out 3).trans rfl,(blk_cell Aa.out 4).trans rfl,(blk_cell Aa.out 5).trans rfl,(blk_cell Ab.out 0).trans rfl,(blk_cell Ab.out 1).trans rfl,(blk_cell Ab.out 2).trans rfl,(blk_cell Ab.out 3).trans rfl,(blk_cell Ab.out 4).trans rfl,(blk_cell Ab.out 5).trans rfl,((HB.out.cell (World.block_lt_of_cell? w _ hw143_0)).trans hw143_0),((HB.out.cell (World.block_lt_of_cell? w _ hw144_0)).trans hw144_0)⟩ (fun hHeld=>?_)
                         clear hK K
                         refine norm_ (a':=?_) ?_ ?_
                         rotate_left
                         ·show Act.put _ (some 106) _ = _
                          simp only [Act.put,List.setIfInBounds_toArray,List.set_cons_zero,List.set_cons_succ,i64_w,i32_w]
                          rfl
                         refine one_ (i:=15) (N:=some 107) #[true,true,true,true,true,true,true,true,true,true,true,true,true,true,true,true,true,true,true,false,false,false] rfl rfl (one_of HT_.out (by kernel_rfl)) (by decide) (fun K hK=>?_)
                         refine Kd.R_append_rows_step (Kd.int .i64) (w0:=w) w.heap.size (by rfl) (.tmp 92) (.tmp 106) 26 3 (.int .i64 0) 8 rfl Try.underlying26 info3 rfl (by decide) (by omega) (.slice B5 Az.length B6) Az Be _ _ _ (fun k_=>(w.heap.size ≤ k_) ∧ some k_ ≠ (.slice Ci Be.length Cj : Value).ownBlock) (fun _=>False) rfl rfl ?aO ?aR (fun _ _ h=>h) (fun _ h=>h.elim) ?aF ?aB ?aS ?aL ?_
                         (case aR=>repeat (first|exact (Kd.R_reads' A2.out).2.2|(with_reducible refine Kd.C_alloc ?_ _)|(with_reducible refine Kd.C_drewN ?_ _)|(with_reducible refine Kd.C_drew ?_)))
                         (case aB=>exact qB7)
                         (case aF=>exact (fun k_ hk=>⟨(Nat.le_trans (below_size qB7) hk),Kd.fresh' (Kd.R_lt (qR A2.out)) k_ hk⟩))
                         (case aO=>exact (by (with_reducible repeat (first|apply Kd.R_alloc|apply Kd.R_drewN|apply Kd.R_drew));exact Kd.R_mono Av.out (fun _ hk=>⟨hk.1.1,hk.2⟩)))
                         (case aS=>exact (below_size qB7))
                         (case aL=>have:=LMc66.out;omega)
                         intro v149 w78 ho hb hg hat
                         rw [← Ny148.out] at ho
                         have n0_:=Aside0.mk (Kd.N_afterv (ok:=(fun k_=>(w.heap.size ≤ k_) ∧ some k_ ≠ (Am : Value).ownBlock ∧ some k_ ≠ (An : Value).ownBlock ∧ some k_ ≠ (v152 : Value).ownBlock ∧ some k_ ≠ (.slice Ci Be.length Cj : Value).ownBlock ∧ k_ ≠ Ac ∧ k_ ≠ Ae ∧ k_ ≠ Ag ∧ k_ ≠ Ak)) (by (with_reducible repeat (first|apply Kd.N_alloc|apply Kd.N_drewN|apply Kd.N_drew));exact Kd.N_mono Aq.out (fun _ hk=>⟨⟨hk.1.1.1.1,⟨hk.1.1.1.2.2.1,⟨hk.1.1.1.2.2.2.1,⟨hk.1.2,⟨hk.2,⟨hk.1.1.1.2.2.2.2.1,⟨hk.1.1.1.2.2.2.2.2.1,⟨hk.1.1.1.2.2.2.2.2.2.1,hk.1.1.1.2.2.2.2.2.2.2⟩⟩⟩⟩⟩⟩⟩⟩,hk.1.1.1.2.1⟩)) hg hat)
                         have n1_:=Aside0.mk (Kd.N_afterv (ok:=(fun k_=>(w.heap.size ≤ k_) ∧ some k_ ≠ (.slice Bj Au.length Bk : Value).ownBlock ∧ some k_ ≠ (An : Value).ownBlock ∧ some k_ ≠ (v152 : Value).ownBlock ∧ some k_ ≠ (.slice Ci Be.length Cj : Value).ownBlock ∧ k_ ≠ Ac ∧ k_ ≠ Ae ∧ k_ ≠ Ag ∧ k_ ≠ Ak)) (by (with_reducible repeat (first|apply Kd.N_alloc|apply Kd.N_drewN|apply Kd.N_drew));exact Kd.N_mono Af.out (fun _ hk=>⟨⟨hk.1.1.1.1,⟨hk.1.1.1.2.2.1,⟨hk.1.1.1.2.2.2.1,⟨hk.1.2,⟨hk.2,⟨hk.1.1.1.2.2.2.2.1,⟨hk.1.1.1.2.2.2.2.2.1,⟨hk.1.1.1.2.2.2.2.2.2.1,hk.1.1.1.2.2.2.2.2.2.2⟩⟩⟩⟩⟩⟩⟩⟩,hk.1.1.1.2.1⟩)) hg hat)
                         have n2_:=Aside0.mk (Kd.N_afterv (ok:=(fun k_=>(w.heap.size ≤ k_) ∧ some k_ ≠ (.slice Bj Au.length Bk : Value).ownBlock ∧ some k_ ≠ (Am : Value).ownBlock ∧ some k_ ≠ (v152 : Value).ownBlock ∧ some k_ ≠ (.slice Ci Be.length Cj : Value).ownBlock ∧ k_ ≠ Ac ∧ k_ ≠ Ae ∧ k_ ≠ Ag ∧ k_ ≠ Ak)) (by (with_reducible repeat (first|apply Kd.N_alloc|apply Kd.N_drewN|apply Kd.N_drew));exact Kd.N_mono Ad.out (fun _ hk=>⟨⟨hk.1.1.1.1,⟨hk.1.1.1.2.2.1,⟨hk.1.1.1.2.2.2.1,⟨hk.1.2,⟨hk.2,⟨hk.1.1.1.2.2.2.2.1,⟨hk.1.1.1.2.2.2.2.2.1,⟨hk.1.1.1.2.2.2.2.2.2.1,hk.1.1.1.2.2.2.2.2.2.2⟩⟩⟩⟩⟩⟩⟩⟩,hk.1.1.1.2.1⟩)) hg hat)
                         have n3_:=Aside0.mk (blk_grown (g:=Ac) (o:=.cells #[.int .i64 a0_0,.int .i64 a0_1,.int .i64 a0_2,.slice (some ad143) l0_3.length c0_3,.slice (some ad137) l0_4.length c0_4,.int .i64 a0_5] 25 (0,0)) (qD Aa.out) hg (Kd.R_ne Av.out Aa.out (by decide)))
                         have n4_:=Aside0.mk (blk_grown (g:=Ae) (o:=.cells #[.int .i64 a1_0,.int .i64 a1_1,.int .i64 a1_2,.slice A1_3 l1_3.length c1_3,.slice A1_4 l1_4.length c1_4,.int .i64 a1_5] 25 (0,0)) (qD Ab.out) hg (Kd.R_ne Av.out Ab.out (by decide)))
                         have n5_:=Aside0.mk (blk_grown (g:=Ag) (o:=.cells #[.int .i64 As,.int .i64 Ar,.int .i64 Ap,.slice none 0 0,.slice none 0 0,.int .i64 Ao] 25 (0,0)) (qD Ai.out) hg (Kd.R_ne Av.out Ai.out (by decide)))
                         have n6_:=Aside0.mk (blk_grown (g:=Ak) (o:=.cells #[.int .i64 (wrap64 (a0_0 * a1_0)),.int .i64 a0_1,.int .i64 a1_2,Am,An,.int .i64 (wrap64 ((wrap64 (a0_5 * a1_0)) + a1_5))] 25 (0,0)) (qD Aj.out) hg (Kd.R_ne Av.out Aj.out (by decide)))
                         have n7_:=Aside0.mk (Kd.N_afterv (ok:=(fun k_=>(w.heap.size ≤ k_) ∧ some k_ ≠ (.slice Bj Au.length Bk : Value).ownBlock ∧ some k_ ≠ (Am : Value).ownBlock ∧ some k_ ≠ (An : Value).ownBlock ∧ some k_ ≠ (.slice Ci Be.length Cj : Value).ownBlock ∧ k_ ≠ Ac ∧ k_ ≠ Ae ∧ k_ ≠ Ag ∧ k_ ≠ Ak)) (by (with_reducible repeat (first|apply Kd.N_alloc|apply Kd.N_drewN|apply Kd.N_drew));exact Kd.N_mono Bq.out (fun _ hk=>⟨⟨hk.1.1,⟨hk.1.2.2.1,⟨hk.1.2.2.2.1,⟨hk.1.2.2.2.2.1,⟨hk.2,⟨hk.1.2.2.2.2.2.1,⟨hk.1.2.2.2.2.2.2.1,⟨hk.1.2.2.2.2.2.2.2.1,hk.1.2.2.2.2.2.2.2.2⟩⟩⟩⟩⟩⟩⟩⟩,hk.1.2.1⟩)) hg hat)
                         have n8_:=Aside0.mk (Kd.R_after (ok:=(fun k_=>(w.heap.size ≤ k_))) (by (with_reducible repeat (first|apply Kd.R_alloc|apply Kd.R_drewN|apply Kd.R_drew));exact Kd.R_mono A2.out (fun _ hk=>⟨hk.1.1,hk.2⟩)) hg hat)
                         have n9_:=Aside0.mk (hb)
                         have n10_:=Aside0.mk (ho)
                         clear Aq
                         clear Af
                         clear Ad
                         clear Aa
                         clear Ab
                         clear Ai
                         clear Aj
                         clear Bq
                         clear A2
                         clear HB
                         clear Av
                         have Aq:=n0_
                         have Af:=n1_
                         have Ad:=n2_
                         have Aa:=n3_
                         have Ab:=n4_
                         have Ai:=n5_
                         have Aj:=n6_
                         have Bq:=n7_
                         have A2:=n8_
                         have HB:=n9_
                         have Bx:=n10_
                         clear n0_ n1_ n2_ n3_ n4_ n5_ n6_ n7_ n8_ n9_ n10_
                         clear ho hb hg hat
                         refine hK.out _ _ ⟨(blk_cell Aa.out 0).trans rfl,(blk_cell Aa.out 1).trans rfl,(blk_cell Aa.out 2).trans rfl,(blk_cell Aa.out 3).trans rfl,(blk_cell Aa.out 4).trans rfl,(blk_cell Aa.out 5).trans rfl,(blk_cell Ab.out 0).trans rfl,(blk_cell Ab.out 1).trans rfl,(blk_cell Ab.out 2).trans rfl,(blk_cell Ab.out 3).trans rfl,(blk_cell Ab.out 4).trans rfl,(blk_cell Ab.out 5).trans rfl,((HB.out.cell (World.block_lt_of_cell? w _ hw143_0)).trans hw143_0),((HB.out.cell (World.block_lt_of_cell? w _ hw144_0)).trans hw144_0)⟩ (fun hHeld=>?_)
                         clear hK K
                         refine norm_ (a':=?_) ?_ ?_
                         rotate_left
                         ·show Act.put _ (some 107) _ = _
                          simp only [Act.put,List.setIfInBounds_toArray,List.set_cons_zero,List.set_cons_succ,i64_w,i32_w]
                          rfl
                         exact norm_ (by simp only [putAll,Act.put,List.setIfInBounds_toArray,List.set_cons_zero,List.set_cons_succ]) (hCont (.slice Ci Be.length Cj,v149,v152) _ ⟨hHeld,(qR A2.out),(qR Bx.out),(by (with_reducible repeat (first|apply Kd.N_alloc|apply Kd.N_drewN|apply Kd.N_drew));exact Kd.N_mono Bq.out (fun _ hk=>⟨hk.1.1,⟨hk.1.2.2.2.2.1,⟨hk.2,⟨hk.1.2.1,⟨hk.1.2.2.1,⟨hk.1.2.2.2.1,⟨hk.1.2.2.2.2.2.1,⟨hk.1.2.2.2.2.2.2.1,⟨hk.1.2.2.2.2.2.2.2.1,hk.1.2.2.2.2.2.2.2.2⟩⟩⟩⟩⟩⟩⟩⟩⟩)),(by (with_reducible repeat (first|apply Kd.N_alloc|apply Kd.N_drewN|apply Kd.N_drew));exact Kd.N_mono Aq.out (fun _ hk=>⟨hk.1.1,⟨hk.1.2.2.2.2.1,⟨hk.2,⟨hk.1.2.2.2.1,⟨hk.1.2.1,⟨hk.1.2.2.1,⟨hk.1.2.2.2.2.2.1,⟨hk.1.2.2.2.2.2.2.1,⟨hk.1.2.2.2.2.2.2.2.1,hk.1.2.2.2.2.2.2.2.2⟩⟩⟩⟩⟩⟩⟩⟩⟩)),(by (with_reducible repeat (first|apply Kd.N_alloc|apply Kd.N_drewN|apply Kd.N_drew));exact Kd.N_mono Af.out (fun _ hk=>⟨hk.1.1,⟨hk.1.2.2.2.2.1,⟨hk.2,⟨hk.1.2.2.2.1,⟨hk.1.2.1,⟨hk.1.2.2.1,⟨hk.1.2.2.2.2.2.1,⟨hk.1.2.2.2.2.2.2.1,⟨hk.1.2.2.2.2.2.2.2.1,hk.1.2.2.2.2.2.2.2.2⟩⟩⟩⟩⟩⟩⟩⟩⟩)),(by (with_reducible repeat (first|apply Kd.N_alloc|apply Kd.N_drewN|apply Kd.N_drew));exact Kd.N_mono Ad.out (fun _ hk=>⟨hk.1.1,⟨hk.1.2.2.2.2.1,⟨hk.2,⟨hk.1.2.2.2.1,⟨hk.1.2.1,⟨hk.1.2.2.1,⟨hk.1.2.2.2.2.2.1,⟨hk.1.2.2.2.2.2.2.1,⟨hk.1.2.2.2.2.2.2.2.1,hk.1.2.2.2.2.2.2.2.2⟩⟩⟩⟩⟩⟩⟩⟩⟩)),(qD Aa.out),(qD Ab.out),(qD Ai.out),(qD Aj.out),qB7⟩)
                       rintro ⟨v146,v149,v152⟩ w80 ⟨hS_,h0_,h1_,h2_,h3_,h4_,h5_,h6_,h7_,h8_,h9_,h10_⟩
                       have n0_ : Aside0 (Kd.R (Kd.int .i64) 3 w80 w.heap.size (fun k_=>(w.heap.size ≤ k_) ∧ some k_ ≠ (v149 : Value).ownBlock) v146 Be):=⟨h0_⟩
                       have n1_ : Aside0 (Kd.R (Kd.int .i64) 3 w80 w.heap.size (fun k_=>(w.heap.size ≤ k_) ∧ some k_ ≠ (v146 : Value).ownBlock) v149 y148):=⟨h1_⟩
                       have n2_ : Aside0 (Kd.N (Kd.slice 3 (Kd.int .i64)) 26 w80 w.heap.size (fun k_=>(w.heap.size ≤ k_) ∧ some k_ ≠ (v146 : Value).ownBlock ∧ some k_ ≠ (v149 : Value).ownBlock ∧ some k_ ≠ (.slice Bj Au.length Bk : Value).ownBlock ∧ some k_ ≠ (Am : Value).ownBlock ∧ some k_ ≠ (An : Value).ownBlock ∧ k_ ≠ Ac ∧ k_ ≠ Ae ∧ k_ ≠ Ag ∧ k_ ≠ Ak) v152 B4):=⟨h2_⟩
                       have n3_ : Aside0 (Kd.N (Kd.slice 3 (Kd.int .i64)) 26 w80 w.heap.size (fun k_=>(w.heap.size ≤ k_) ∧ some k_ ≠ (v146 : Value).ownBlock ∧ some k_ ≠ (v149 : Value).ownBlock ∧ some k_ ≠ (v152 : Value).ownBlock ∧ some k_ ≠ (Am : Value).ownBlock ∧ some k_ ≠ (An : Value).ownBlock ∧ k_ ≠ Ac ∧ k_ ≠ Ae ∧ k_ ≠ Ag ∧ k_ ≠ Ak) (.slice Bj Au.length Bk) Au):=⟨h3_⟩
                       have n4_ : Aside0 (Kd.N (Kd.slice 3 (Kd.int .i64)) 26 w80 w.heap.size (fun k_=>(w.heap.size ≤ k_) ∧ some k_ ≠ (v146 : Value).ownBlock ∧ some k_ ≠ (v149 : Value).ownBlock ∧ some k_ ≠ (v152 : Value).ownBlock ∧ some k_ ≠ (.slice Bj Au.length Bk : Value).ownBlock ∧ some k_ ≠ (An : Value).ownBlock ∧ k_ ≠ Ac ∧ k_ ≠ Ae ∧ k_ ≠ Ag ∧ k_ ≠ Ak) Am Al):=⟨h4_⟩
                       have n5_ : Aside0 (Kd.N (Kd.slice 26 (Kd.slice 3 (Kd.int .i64))) 22 w80 w.heap.size (fun k_=>(w.heap.size ≤ k_) ∧ some k_ ≠ (v146 : Value).ownBlock ∧ some k_ ≠ (v149 : Value).ownBlock ∧ some k_ ≠ (v152 : Value).ownBlock ∧ some k_ ≠ (.slice Bj Au.length Bk : Value).ownBlock ∧ some k_ ≠ (Am : Value).ownBlock ∧ k_ ≠ Ac ∧ k_ ≠ Ae ∧ k_ ≠ Ag ∧ k_ ≠ Ak) An Ah):=⟨h5_⟩
                       have n6_ : Aside0 (w80.heap[Ac]? = some (.cells #[.int .i64 a0_0,.int .i64 a0_1,.int .i64 a0_2,.slice (some ad143) l0_3.length c0_3,.slice (some ad137) l0_4.length c0_4,.int .i64 a0_5] 25 (0,0))):=⟨h6_⟩
                       have n7_ : Aside0 (w80.heap[Ae]? = some (.cells #[.int .i64 a1_0,.int .i64 a1_1,.int .i64 a1_2,.slice A1_3 l1_3.length c1_3,.slice A1_4 l1_4.length c1_4,.int .i64 a1_5] 25 (0,0))):=⟨h7_⟩
                       have n8_ : Aside0 (w80.heap[Ag]? = some (.cells #[.int .i64 As,.int .i64 Ar,.int .i64 Ap,.slice none 0 0,.slice none 0 0,.int .i64 Ao] 25 (0,0))):=⟨h8_⟩
                       have n9_ : Aside0 (w80.heap[Ak]? = some (.cells #[.int .i64 (wrap64 (a0_0 * a1_0)),.int .i64 a0_1,.int .i64 a1_2,Am,An,.int .i64 (wrap64 ((wrap64 (a0_5 * a1_0)) + a1_5))] 25 (0,0))):=⟨h9_⟩
                       have n10_ : Aside0 (Below w.heap.size w w80):=⟨h10_⟩
                       clear Av
                       clear Aq
                       clear Af
                       clear Ad
                       clear A9
                       clear Aa
                       clear Ab
                       clear Ai
                       clear Aj
                       clear HB
                       clear h0_ h1_ h2_ h3_ h4_ h5_ h6_ h7_ h8_ h9_ h10_
                       have A2:=n0_
                       have Bx:=n1_
                       have Bq:=n2_
                       have Aq:=n3_
                       have Af:=n4_
                       have Ad:=n5_
                       have Aa:=n6_
                       have Ab:=n7_
                       have Ai:=n8_
                       have Aj:=n9_
                       have HB:=n10_
                       clear n0_ n1_ n2_ n3_ n4_ n5_ n6_ n7_ n8_ n9_ n10_
                       have hHeld : w80.cell? ⟨Ac,0,none⟩ = some (.int .i64 a0_0) ∧ w80.cell? ⟨Ac,1,none⟩ = some (.int .i64 a0_1) ∧ w80.cell? ⟨Ac,2,none⟩ = some (.int .i64 a0_2) ∧ w80.cell? ⟨Ac,3,none⟩ = some (.slice (some ad143) l0_3.length c0_3) ∧ w80.cell? ⟨Ac,4,none⟩ = some (.slice (some ad137) l0_4.length c0_4) ∧ w80.cell? ⟨Ac,5,none⟩ = some (.int .i64 a0_5) ∧ w80.cell? ⟨Ae,0,none⟩ = some (.int .i64 a1_0) ∧ w80.cell? ⟨Ae,1,none⟩ = some (.int .i64 a1_1) ∧ w80.cell? ⟨Ae,2,none⟩ = some (.int .i64 a1_2) ∧ w80.cell? ⟨Ae,3,none⟩ = some (.slice A1_3 l1_3.length c1_3) ∧ w80.cell? ⟨Ae,4,none⟩ = some (.slice A1_4 l1_4.length c1_4) ∧ w80.cell? ⟨Ae,5,none⟩ = some (.int .i64 a1_5) ∧ w80.cell? (ad143.add (At).toNat) = some (.slice (some ad144) (rd_L1 l0_3 At).length c143_0) ∧ w80.cell? (ad144.add (Ay).toNat) = some (.int .i64 (rd (rd_L1 l0_3 At) Ay)):=hS_
                       obtain ⟨Ao82,co82,eo82⟩:=Kd.N_slice Bq.out
                       (first|subst eo82|(injection eo82 with f1_ f2_ f3_;have f4_:=f1_.symm;have f5_:=f3_.symm;clear f1_ f2_ f3_;subst f4_;subst f5_))
                       refine norm_ (a':=?_) ?_ ?_
                       rotate_left
                       ·simp only [putAll,Act.put,List.setIfInBounds_toArray,List.set_cons_zero,List.set_cons_succ]
                        rfl
                       refine one_ (i:=19) (N:=some 111) #[true,true,true,true,true,true,true,true,true,true,true,true,true,true,true,true,true,true,true,true,false,false] rfl rfl (one_of HT_.out (by kernel_rfl)) (by decide) (fun K hK=>?_)
                       refine Kd.N_append_rows_step (Kd.slice 3 (Kd.int .i64)) (w0:=w) w.heap.size (by rfl) (.tmp 108) (.tmp 110) 22 26 (.slice none 0 0) 24 rfl Try.underlying22 info26 rfl (by decide) (by omega) (.slice Bj Au.length Bk) Au B4 _ _ _ (fun k_=>(w.heap.size ≤ k_) ∧ some k_ ≠ (Am : Value).ownBlock ∧ some k_ ≠ (An : Value).ownBlock ∧ some k_ ≠ (v146 : Value).ownBlock ∧ some k_ ≠ (v149 : Value).ownBlock ∧ k_ ≠ Ac ∧ k_ ≠ Ae ∧ k_ ≠ Ag ∧ k_ ≠ Ak) (fun k_=>((fun k_=>(w.heap.size ≤ k_) ∧ some k_ ≠ (Am : Value).ownBlock ∧ some k_ ≠ (An : Value).ownBlock ∧ some k_ ≠ (v146 : Value).ownBlock ∧ some k_ ≠ (v149 : Value).ownBlock ∧ k_ ≠ Ac ∧ k_ ≠ Ae ∧ k_ ≠ Ag ∧ k_ ≠ Ak)) k_ ∧ some k_ ≠ (.slice Bj Au.length Bk : Value).ownBlock) rfl rfl ?aO ?aR (fun _ hk=>hk) ?aF ?aB ?aS ?aL ?_
                       (case aR=>exact (by skip;exact Kd.N_F (Kd.N_mono (ok':=(fun k_=>((fun k_=>(w.heap.size ≤ k_) ∧ some k_ ≠ (Am : Value).ownBlock ∧ some k_ ≠ (An : Value).ownBlock ∧ some k_ ≠ (v146 : Value).ownBlock ∧ some k_ ≠ (v149 : Value).ownBlock ∧ k_ ≠ Ac ∧ k_ ≠ Ae ∧ k_ ≠ Ag ∧ k_ ≠ Ak)) k_ ∧ some k_ ≠ (.slice Bj Au.length Bk : Value).ownBlock)) (Bq.out) (fun k_ hk=>⟨⟨hk.1,⟨hk.2.2.2.2.1,⟨hk.2.2.2.2.2.1,⟨hk.2.1,⟨hk.2.2.1,⟨hk.2.2.2.2.2.2.1,⟨hk.2.2.2.2.2.2.2.1,⟨hk.2.2.2.2.2.2.2.2.1,hk.2.2.2.2.2.2.2.2.2⟩⟩⟩⟩⟩⟩⟩⟩,hk.2.2.2.1⟩))))
                       (case aB=>exact qB7)
                       (case aF=>exact (fun k_ hk=>⟨(Nat.le_trans (below_size qB7) hk),Kd.fresh' (Kd.N_lt (qN Af.out)) k_ hk,Kd.fresh' (Kd.N_lt (qN Ad.out)) k_ hk,Kd.fresh' (Kd.R_lt (qR A2.out)) k_ hk,Kd.fresh' (Kd.R_lt (qR Bx.out)) k_ hk,Kd.freshB (g:=Ac) (o:=.cells #[.int .i64 a0_0,.int .i64 a0_1,.int .i64 a0_2,.slice (some ad143) l0_3.length c0_3,.slice (some ad137) l0_4.length c0_4,.int .i64 a0_5] 25 (0,0)) (qD Aa.out) k_ hk,Kd.freshB (g:=Ae) (o:=.cells #[.int .i64 a1_0,.int .i64 a1_1,.int .i64 a1_2,.slice A1_3 l1_3.length c1_3,.slice A1_4 l1_4.length c1_4,.int .i64 a1_5] 25 (0,0)) (qD Ab.out) k_ hk,Kd.freshB (g:=Ag) (o:=.cells #[.int .i64 As,.int .i64 Ar,.int .i64 Ap,.slice none 0 0,.slice none 0 0,.int .i64 Ao] 25 (0,0)) (qD Ai.out) k_ hk,Kd.freshB (g:=Ak) (o:=.cells #[.int .i64 (wrap64 (a0_0 * a1_0)),.int .i64 a0_1,.int .i64 a1_2,Am,An,.int .i64 (wrap64 ((wrap64 (a0_5 * a1_0)) + a1_5))] 25 (0,0)) (qD Aj.out) k_ hk⟩))
                       (case aO=>exact (by (with_reducible repeat (first|apply Kd.N_alloc|apply Kd.N_drewN|apply Kd.N_drew));exact Kd.N_mono Aq.out (fun _ hk=>⟨hk.1,⟨hk.2.2.2.2.1,⟨hk.2.2.2.2.2.1,⟨hk.2.1,⟨hk.2.2.1,⟨hk.2.2.2.2.2.2.1,⟨hk.2.2.2.2.2.2.2.1,⟨hk.2.2.2.2.2.2.2.2.1,hk.2.2.2.2.2.2.2.2.2⟩⟩⟩⟩⟩⟩⟩⟩)))
                       (case aS=>exact (below_size qB7))
                       (case aL=>have:=LMc67.out;omega)
                       intro v155 w81 ho hb hg hat
                       rw [← Ny154.out] at ho
                       have n0_:=Aside0.mk (Kd.N_afterv (ok:=(fun k_=>(w.heap.size ≤ k_) ∧ some k_ ≠ (An : Value).ownBlock ∧ some k_ ≠ (v146 : Value).ownBlock ∧ some k_ ≠ (v149 : Value).ownBlock ∧ some k_ ≠ (.slice Ao82 B4.length co82 : Value).ownBlock ∧ k_ ≠ Ac ∧ k_ ≠ Ae ∧ k_ ≠ Ag ∧ k_ ≠ Ak)) (by (with_reducible repeat (first|apply Kd.N_alloc|apply Kd.N_drewN|apply Kd.N_drew));exact Kd.N_mono Af.out (fun _ hk=>⟨⟨hk.1,⟨hk.2.2.2.2.2.1,⟨hk.2.1,⟨hk.2.2.1,⟨hk.2.2.2.1,⟨hk.2.2.2.2.2.2.1,⟨hk.2.2.2.2.2.2.2.1,⟨hk.2.2.2.2.2.2.2.2.1,hk.2.2.2.2.2.2.2.2.2⟩⟩⟩⟩⟩⟩⟩⟩,hk.2.2.2.2.1⟩)) hg hat)
                       have n1_:=Aside0.mk (Kd.N_afterv (ok:=(fun k_=>(w.heap.size ≤ k_) ∧ some k_ ≠ (Am : Value).ownBlock ∧ some k_ ≠ (v146 : Value).ownBlock ∧ some k_ ≠ (v149 : Value).ownBlock ∧ some k_ ≠ (.slice Ao82 B4.length co82 : Value).ownBlock ∧ k_ ≠ Ac ∧ k_ ≠ Ae ∧ k_ ≠ Ag ∧ k_ ≠ Ak)) (by (with_reducible repeat (first|apply Kd.N_alloc|apply Kd.N_drewN|apply Kd.N_drew));exact Kd.N_mono Ad.out (fun _ hk=>⟨⟨hk.1,⟨hk.2.2.2.2.2.1,⟨hk.2.1,⟨hk.2.2.1,⟨hk.2.2.2.1,⟨hk.2.2.2.2.2.2.1,⟨hk.2.2.2.2.2.2.2.1,⟨hk.2.2.2.2.2.2.2.2.1,hk.2.2.2.2.2.2.2.2.2⟩⟩⟩⟩⟩⟩⟩⟩,hk.2.2.2.2.1⟩)) hg hat)
                       have n2_:=Aside0.mk (blk_grown (g:=Ac) (o:=.cells #[.int .i64 a0_0,.int .i64 a0_1,.int .i64 a0_2,.slice (some ad143) l0_3.length c0_3,.slice (some ad137) l0_4.length c0_4,.int .i64 a0_5] 25 (0,0)) (qD Aa.out) hg (Kd.N_ne Aq.out Aa.out (by decide)))
                       have n3_:=Aside0.mk (blk_grown (g:=Ae) (o:=.cells #[.int .i64 a1_0,.int .i64 a1_1,.int .i64 a1_2,.slice A1_3 l1_3.length c1_3,.slice A1_4 l1_4.length c1_4,.int .i64 a1_5] 25 (0,0)) (qD Ab.out) hg (Kd.N_ne Aq.out Ab.out (by decide)))
                       have n4_:=Aside0.mk (blk_grown (g:=Ag) (o:=.cells #[.int .i64 As,.int .i64 Ar,.int .i64 Ap,.slice none 0 0,.slice none 0 0,.int .i64 Ao] 25 (0,0)) (qD Ai.out) hg (Kd.N_ne Aq.out Ai.out (by decide)))
                       have n5_:=Aside0.mk (blk_grown (g:=Ak) (o:=.cells #[.int .i64 (wrap64 (a0_0 * a1_0)),.int .i64 a0_1,.int .i64 a1_2,Am,An,.int .i64 (wrap64 ((wrap64 (a0_5 * a1_0)) + a1_5))] 25 (0,0)) (qD Aj.out) hg (Kd.N_ne Aq.out Aj.out (by decide)))
                       have n6_:=Aside0.mk (Kd.R_over' (qR A2.out) (Kd.N_typed (qN Aq.out)) (by decide) hg)
                       have n7_:=Aside0.mk (Kd.R_over' (qR Bx.out) (Kd.N_typed (qN Aq.out)) (by decide) hg)
                       have n8_:=Aside0.mk (Kd.N_afterv (ok:=(fun k_=>(w.heap.size ≤ k_) ∧ some k_ ≠ (Am : Value).ownBlock ∧ some k_ ≠ (An : Value).ownBlock ∧ some k_ ≠ (v146 : Value).ownBlock ∧ some k_ ≠ (v149 : Value).ownBlock ∧ k_ ≠ Ac ∧ k_ ≠ Ae ∧ k_ ≠ Ag ∧ k_ ≠ Ak)) (by (with_reducible repeat (first|apply Kd.N_alloc|apply Kd.N_drewN|apply Kd.N_drew));exact Kd.N_mono Bq.out (fun _ hk=>⟨⟨hk.1,⟨hk.2.2.2.2.1,⟨hk.2.2.2.2.2.1,⟨hk.2.1,⟨hk.2.2.1,⟨hk.2.2.2.2.2.2.1,⟨hk.2.2.2.2.2.2.2.1,⟨hk.2.2.2.2.2.2.2.2.1,hk.2.2.2.2.2.2.2.2.2⟩⟩⟩⟩⟩⟩⟩⟩,hk.2.2.2.1⟩)) hg hat)
                       have n9_:=Aside0.mk (hb)
                       have n10_:=Aside0.mk (ho)
                       clear Af
                       clear Ad
                       clear Aa
                       clear Ab
                       clear Ai
                       clear Aj
                       clear A2
                       clear Bx
                       clear Bq
                       clear HB
                       clear Aq
                       have Af:=n0_
                       have Ad:=n1_
                       have Aa:=n2_
                       have Ab:=n3_
                       have Ai:=n4_
                       have Aj:=n5_
                       have A2:=n6_
                       have Bx:=n7_
                       have Bq:=n8_
                       have HB:=n9_
                       have HO156:=n10_
                       clear n0_ n1_ n2_ n3_ n4_ n5_ n6_ n7_ n8_ n9_ n10_
                       clear ho hb hg hat
                       refine hK.out _ _ ⟨(blk_cell Aa.out 0).trans rfl,(blk_cell Aa.out 1).trans rfl,(blk_cell Aa.out 2).trans rfl,(blk_cell Aa.out 3).trans rfl,(blk_cell Aa.out 4).trans rfl,(blk_cell Aa.out 5).trans rfl,(blk_cell Ab.out 0).trans rfl,(blk_cell Ab.out 1).trans rfl,(blk_cell Ab.out 2).trans rfl,(blk_cell Ab.out 3).trans rfl,(blk_cell Ab.out 4).trans rfl,(blk_cell Ab.out 5).trans rfl,((HB.out.cell (World.block_lt_of_cell? w _ hw143_0)).trans hw143_0),((HB.out.cell (World.block_lt_of_cell? w _ hw144_0)).trans hw144_0)⟩ (fun hHeld=>?_)
                       clear hK K
                       refine norm_ (a':=?_) ?_ ?_
                       rotate_left
                       ·show Act.put _ (some 111) _ = _
                        simp only [Act.put,List.setIfInBounds_toArray,List.set_cons_zero,List.set_cons_succ,i64_w,i32_w]
                        rfl
                       refine pure_ (i:=20) (N:=some 11) (v:=?_) (a':=?_) #[true,true,true,true,true,true,true,true,true,true,true,true,true,true,true,true,true,true,true,true,true,false] rfl rfl (any_of HT_.out (by kernel_rfl)) (fun _ _ _ h=>h) (Or.inl ⟨by rfl,?_⟩) ?_ ?_
                       rotate_left
                       ·intro w'
                        go_simp
                        with_reducible rfl
                       rotate_left
                       ·simp only [Act.put,List.setIfInBounds_toArray,List.set_cons_zero,List.set_cons_succ,i64_w,i32_w]
                        rfl
                       refine pure_ (i:=21) (N:=some 12) (v:=?_) (a':=?_) #[true,true,true,true,true,true,true,true,true,true,true,true,true,true,true,true,true,true,true,true,true,true] rfl rfl (any_of HT_.out (by kernel_rfl)) (fun _ _ _ h=>h) (Or.inl ⟨by rfl,?_⟩) ?_ ?_
                       rotate_left
                       ·intro w'
                        go_simp
                        with_reducible rfl
                       rotate_left
                       ·simp only [Act.put,List.setIfInBounds_toArray,List.set_cons_zero,List.set_cons_succ,i64_w,i32_w]
                        rfl
                       refine done_ (done_of HT_.out (by kernel_rfl)) ?_
                       try go_wp2
                       go_roundg k3
                       case measure=>have:=HK1.out;have:=HK2.out;have:=HK3.out;omega
                       case rel=>exact ⟨(y148),(y154),(wrap64 (Ay + 1)),(As),(Ar),(Ap),(Ao),(by first|rfl|(simp;done)|(simp [*];done)),H',⟨by have:=HK1.out;have:=HK2.out;have:=HK3.out;omega⟩,⟨by (with_reducible repeat (first|apply Kd.R_alloc|apply Kd.R_drewN|apply Kd.R_drew));exact Kd.R_mono Bx.out (fun _ hk=>hk.1)⟩,⟨by (with_reducible repeat (first|apply Kd.N_alloc|apply Kd.N_drewN|apply Kd.N_drew));exact Kd.N_mono HO156.out (fun _ hk=>⟨hk.1,⟨hk.2.2.2.2.1,⟨hk.2.1,⟨hk.2.2.1,⟨hk.2.2.2.2.2.1,⟨hk.2.2.2.2.2.2.1,⟨hk.2.2.2.2.2.2.2.1,hk.2.2.2.2.2.2.2.2⟩⟩⟩⟩⟩⟩⟩)⟩,⟨by (with_reducible repeat (first|apply Kd.N_alloc|apply Kd.N_drewN|apply Kd.N_drew));exact Kd.N_mono Af.out (fun _ hk=>⟨hk.1.1,⟨hk.1.2.2.2.1,⟨hk.2,⟨hk.1.2.1,⟨hk.1.2.2.2.2.2.1,⟨hk.1.2.2.2.2.2.2.1,⟨hk.1.2.2.2.2.2.2.2.1,hk.1.2.2.2.2.2.2.2.2⟩⟩⟩⟩⟩⟩⟩)⟩,⟨by (with_reducible repeat (first|apply Kd.N_alloc|apply Kd.N_drewN|apply Kd.N_drew));exact Kd.N_mono Ad.out (fun _ hk=>⟨hk.1.1,⟨hk.1.2.2.2.1,⟨hk.2,⟨hk.1.2.1,⟨hk.1.2.2.2.2.2.1,⟨hk.1.2.2.2.2.2.2.1,⟨hk.1.2.2.2.2.2.2.2.1,hk.1.2.2.2.2.2.2.2.2⟩⟩⟩⟩⟩⟩⟩)⟩,⟨by (with_reducible repeat (first|refine blk_drewN ?_ _|refine blk_drew ?_|refine blk_alloc ?_ _));exact Aa.out⟩,⟨by (with_reducible repeat (first|refine blk_drewN ?_ _|refine blk_drew ?_|refine blk_alloc ?_ _));exact Ab.out⟩,⟨by (with_reducible repeat (first|refine blk_drewN ?_ _|refine blk_drew ?_|refine blk_alloc ?_ _));exact Ai.out⟩,⟨by (with_reducible repeat (first|refine blk_drewN ?_ _|refine blk_drew ?_|refine blk_alloc ?_ _));exact Aj.out⟩,⟨by repeat (first|(with_reducible first|exact HB.out|apply below_alloc|apply pw_below_drewN|apply below_drew1|refine below_set ?_ Bs.out|refine below_set ?_ Bt.out|refine below_set ?_ Bu.out|refine below_set ?_ Ck.out)|exact HB.out)⟩⟩
                      ·rw [if_neg c67] at H
                       exact absurd H (by simp)
                     ·rw [if_neg c66] at H
                      exact absurd H (by simp)
                    ·rw [if_neg c65] at H
                     exact absurd H (by simp)
                   ·rw [if_neg c64] at H
                    exact absurd H (by simp)
                 ·rw [if_neg c54] at H
                  exact absurd H (by simp)
                ·rw [if_neg c53] at H
                 exact absurd H (by simp)
               ·rw [if_neg c52] at H
                exact absurd H (by simp)
              ·rw [if_neg c51] at H
               exact absurd H (by simp)
             ·rw [if_neg c50] at H
              have c50b0 : decide (Ay < a0_1) = false:=decide_eq_false c50
              clear c50
              obtain ⟨Bo,hy157⟩ : ∃ y_ : List (List Int),y_ = (([Az] : List (List Int))):=⟨_,rfl⟩
              replace H : (if Al.length + Bo.length < 5864062014805 then ((some (([Au] : List (List (List Int))) : List (List (List Int)))).bind fun Cd=>(if Ah.length + Cd.length < 5864062014805 then (turner_Then.l1 k3 At a0_0 At a1_0 (wrap64 (Bh + 1)) a0_0 a0_1 a0_2 l0_3 l0_4 a0_5 a1_0 a1_1 a1_2 l1_3 l1_4 a1_5 (wrap64 (a0_0 * a1_0)) a0_1 a1_2 (Al ++ Bo) (Ah ++ Cd) (wrap64 ((wrap64 (a0_5 * a1_0)) + a1_5))) else (none))) else (none)) = some (r1,r2,r3,r4,r5,r6,r7):=by first|(rw [hy157];with_reducible exact H)|(have H2_:=(Option.bind_some _ _).symm.trans H;rw [hy157];with_reducible exact H2_)|(have H2_:=(Option.bind_some _ _).symm.trans H;with_reducible exact H2_)|with_reducible exact H|(rw [hy157];exact H)|exact H
              have Ny157:=Aside0.mk hy157
              clear hy157
              by_cases c83 : Al.length + Bo.length < 5864062014805
              ·rw [if_pos c83] at H
               have LMc83:=Aside0.mk c83
               clear c83
               obtain ⟨Cm,hy160⟩ : ∃ y_ : List (List Int),y_ = (Al ++ Bo):=⟨_,rfl⟩
               replace H : ((some (([Au] : List (List (List Int))) : List (List (List Int)))).bind fun Cd=>(if Ah.length + Cd.length < 5864062014805 then (turner_Then.l1 k3 At a0_0 At a1_0 (wrap64 (Bh + 1)) a0_0 a0_1 a0_2 l0_3 l0_4 a0_5 a1_0 a1_1 a1_2 l1_3 l1_4 a1_5 (wrap64 (a0_0 * a1_0)) a0_1 a1_2 Cm (Ah ++ Cd) (wrap64 ((wrap64 (a0_5 * a1_0)) + a1_5))) else (none))) = some (r1,r2,r3,r4,r5,r6,r7):=by first|(rw [hy160];with_reducible exact H)|(have H2_:=(Option.bind_some _ _).symm.trans H;rw [hy160];with_reducible exact H2_)|(have H2_:=(Option.bind_some _ _).symm.trans H;with_reducible exact H2_)|with_reducible exact H|(rw [hy160];exact H)|exact H
               have Ny160:=Aside0.mk hy160
               clear hy160
               obtain ⟨Cd,hy163⟩ : ∃ y_ : List (List (List Int)),y_ = (([Au] : List (List (List Int)))):=⟨_,rfl⟩
               replace H : (if Ah.length + Cd.length < 5864062014805 then (turner_Then.l1 k3 At a0_0 At a1_0 (wrap64 (Bh + 1)) a0_0 a0_1 a0_2 l0_3 l0_4 a0_5 a1_0 a1_1 a1_2 l1_3 l1_4 a1_5 (wrap64 (a0_0 * a1_0)) a0_1 a1_2 Cm (Ah ++ Cd) (wrap64 ((wrap64 (a0_5 * a1_0)) + a1_5))) else (none)) = some (r1,r2,r3,r4,r5,r6,r7):=by first|(rw [hy163];with_reducible exact H)|(have H2_:=(Option.bind_some _ _).symm.trans H;rw [hy163];with_reducible exact H2_)|(have H2_:=(Option.bind_some _ _).symm.trans H;with_reducible exact H2_)|with_reducible exact H|(rw [hy163];exact H)|exact H
               have Ny163:=Aside0.mk hy163
               clear hy163
               by_cases c84 : Ah.length + Cd.length < 5864062014805
               ·rw [if_pos c84] at H
                have LMc84:=Aside0.mk c84
                clear c84
                obtain ⟨y166,hy166⟩ : ∃ y_ : List (List (List Int)),y_ = (Ah ++ Cd):=⟨_,rfl⟩
                replace H : (turner_Then.l1 k3 At a0_0 At a1_0 (wrap64 (Bh + 1)) a0_0 a0_1 a0_2 l0_3 l0_4 a0_5 a1_0 a1_1 a1_2 l1_3 l1_4 a1_5 (wrap64 (a0_0 * a1_0)) a0_1 a1_2 Cm y166 (wrap64 ((wrap64 (a0_5 * a1_0)) + a1_5))) = some (r1,r2,r3,r4,r5,r6,r7):=by first|(rw [hy166];with_reducible exact H)|(have H2_:=(Option.bind_some _ _).symm.trans H;rw [hy166];with_reducible exact H2_)|(have H2_:=(Option.bind_some _ _).symm.trans H;with_reducible exact H2_)|with_reducible exact H|(rw [hy166];exact H)|exact H
                have Ny166:=Aside0.mk hy166
                clear hy166
                have H':=Aside0.mk H
                clear H
                obtain ⟨A0,A1,eo85⟩:=Kd.N_slice Af.out
                subst eo85
                obtain ⟨Aw,Ax,eo86⟩:=Kd.N_slice Ad.out
                subst eo86
                try go_wp2
                have n0_:=Aside0.mk (Kd.R_drew Av.out)
                have n1_:=Aside0.mk (Kd.N_drew Aq.out)
                have n2_:=Aside0.mk (Kd.N_drew Af.out)
                have n3_:=Aside0.mk (Kd.N_drew Ad.out)
                have n4_:=Aside0.mk (blk_drew Aa.out)
                have n5_:=Aside0.mk (blk_drew Ab.out)
                have n6_:=Aside0.mk (blk_drew Ai.out)
                have n7_:=Aside0.mk (blk_drew Aj.out)
                have n8_:=Aside0.mk (below_drew1 HB.out)
                clear Av
                clear Aq
                clear Af
                clear Ad
                clear Aa
                clear Ab
                clear Ai
                clear Aj
                clear HB
                have Av:=n0_
                have Aq:=n1_
                have Af:=n2_
                have Ad:=n3_
                have Aa:=n4_
                have Ab:=n5_
                have Ai:=n6_
                have Aj:=n7_
                have HB:=n8_
                clear n0_ n1_ n2_ n3_ n4_ n5_ n6_ n7_ n8_
                obtain ⟨Cn,Co,eo88⟩:=Kd.R_slice Av.out
                (first|subst eo88|(injection eo88 with f1_ f2_ f3_;have f4_:=f1_.symm;have f5_:=f3_.symm;clear f1_ f2_ f3_;subst f4_;subst f5_))
                refine start_ (n:=14) (S:=fun w'=>w'.cell? ⟨Ak,0,none⟩ = some (.int .i64 (wrap64 (a0_0 * a1_0))) ∧ w'.cell? ⟨Ak,1,none⟩ = some (.int .i64 a0_1) ∧ w'.cell? ⟨Ak,2,none⟩ = some (.int .i64 a1_2) ∧ w'.cell? ⟨Ak,3,none⟩ = some (.slice A0 Al.length A1) ∧ w'.cell? ⟨Ak,4,none⟩ = some (.slice Aw Ah.length Ax) ∧ w'.cell? ⟨Ak,5,none⟩ = some (.int .i64 (wrap64 ((wrap64 (a0_5 * a1_0)) + a1_5)))) (ds:=[11,13]) #[false,false,false,false,false,false,false,false,false,false,false,false,false,false] (by kernel_rfl) rfl rfl ⟨(blk_cell Aj.out 0).trans rfl,(blk_cell Aj.out 1).trans rfl,(blk_cell Aj.out 2).trans rfl,(blk_cell Aj.out 3).trans rfl,(blk_cell Aj.out 4).trans rfl,(blk_cell Aj.out 5).trans rfl⟩ (fun hHeld=>?_);refine with_tabW turner_Then.tab28 turner_Then.bits28 (fun HT_ HW_=>?_)
                generalize wr.drew = w87 at Av Aq Af Ad Aa Ab Ai Aj HB hHeld ⊢
                refine pure_ (i:=0) (N:=some 113) (v:=?_) (a':=?_) #[true,false,false,false,false,false,false,false,false,false,false,false,false,false] rfl rfl (any_of HT_.out (by kernel_rfl)) (fun _ _ _ h=>h) (Or.inl ⟨by rfl,?_⟩) ?_ ?_
                rotate_left
                ·intro w'
                 go_simp
                 with_reducible rfl
                rotate_left
                ·simp only [Act.put,List.setIfInBounds_toArray,List.set_cons_zero,List.set_cons_succ,i64_w,i32_w]
                 rfl
                refine pure_ (i:=2) (N:=some 115) (v:=?_) (a':=?_) #[true,false,true,false,false,false,false,false,false,false,false,false,false,false] rfl rfl (any_of HT_.out (by kernel_rfl)) (fun _ _ _ h=>h) (Or.inl ⟨by rfl,?_⟩) ?_ ?_
                rotate_left
                ·intro w'
                 go_simp
                 with_reducible rfl
                rotate_left
                ·simp only [Act.put,List.setIfInBounds_toArray,List.set_cons_zero,List.set_cons_succ,i64_w,i32_w]
                 rfl
                refine pure_ (i:=5) (N:=some 118) (v:=?_) (a':=?_) #[true,false,true,false,false,true,false,false,false,false,false,false,false,false] rfl rfl (any_of HT_.out (by kernel_rfl)) (fun _ _ _ h=>h) (Or.inl ⟨by rfl,?_⟩) ?_ ?_
                rotate_left
                ·intro w'
                 go_simp
                 with_reducible rfl
                rotate_left
                ·simp only [Act.put,List.setIfInBounds_toArray,List.set_cons_zero,List.set_cons_succ,i64_w,i32_w]
                 rfl
                refine pure_ (i:=7) (N:=some 120) (v:=?_) (a':=?_) #[true,false,true,false,false,true,false,true,false,false,false,false,false,false] rfl rfl (any_of HT_.out (by kernel_rfl)) (fun _ _ _ h=>h) (Or.inl ⟨by rfl,?_⟩) ?_ ?_
                rotate_left
                ·intro w'
                 go_simp
                 with_reducible rfl
                rotate_left
                ·simp only [Act.put,List.setIfInBounds_toArray,List.set_cons_zero,List.set_cons_succ,i64_w,i32_w]
                 rfl
                refine take_ (i:=1) (N:=some 114) (v:=?_) (a':=?_) #[true,true,true,false,false,true,false,true,false,false,false,false,false,false] rfl rfl (take_ofW HT_.out HW_.out (by kernel_rfl)) (fun _ _ _ h=>h) (Or.inl ⟨by rfl,?_⟩) hHeld ?_ ?_
                rotate_left
                ·rintro w' ⟨s0,s1,s2,s3,s4,s5⟩
                 go_simp
                 with_reducible rfl
                rotate_left
                ·simp only [Act.put,List.setIfInBounds_toArray,List.set_cons_zero,List.set_cons_succ,i64_w,i32_w]
                 rfl
                refine take_ (i:=6) (N:=some 119) (v:=?_) (a':=?_) #[true,true,true,false,false,true,true,true,false,false,false,false,false,false] rfl rfl (take_ofW HT_.out HW_.out (by kernel_rfl)) (fun _ _ _ h=>h) (Or.inl ⟨by rfl,?_⟩) hHeld ?_ ?_
                rotate_left
                ·rintro w' ⟨s0,s1,s2,s3,s4,s5⟩
                 go_simp
                 with_reducible rfl
                rotate_left
                ·simp only [Act.put,List.setIfInBounds_toArray,List.set_cons_zero,List.set_cons_succ,i64_w,i32_w]
                 rfl
                refine join_ (σ:=Value × Value × Value) 4 #[true,true,true,true,true,true,true,true,true,false,true,false,false,false] (fun s_=>[(116,s_.1),(117,s_.2.1),(121,s_.2.2),(123,.pointer (some ⟨Ak,3,none⟩))]) (fun s_ w'=>(w'.cell? ⟨Ak,0,none⟩ = some (.int .i64 (wrap64 (a0_0 * a1_0))) ∧ w'.cell? ⟨Ak,1,none⟩ = some (.int .i64 a0_1) ∧ w'.cell? ⟨Ak,2,none⟩ = some (.int .i64 a1_2) ∧ w'.cell? ⟨Ak,3,none⟩ = some (.slice A0 Al.length A1) ∧ w'.cell? ⟨Ak,4,none⟩ = some (.slice Aw Ah.length Ax) ∧ w'.cell? ⟨Ak,5,none⟩ = some (.int .i64 (wrap64 ((wrap64 (a0_5 * a1_0)) + a1_5)))) ∧ (Kd.N (Kd.slice 3 (Kd.int .i64)) 26 w' w.heap.size (fun k_=>(w.heap.size ≤ k_) ∧ some k_ ≠ (s_.2.1 : Value).ownBlock ∧ some k_ ≠ (s_.2.2 : Value).ownBlock ∧ some k_ ≠ (.slice Aw Ah.length Ax : Value).ownBlock ∧ k_ ≠ Ac ∧ k_ ≠ Ae ∧ k_ ≠ Ag ∧ k_ ≠ Ak) s_.1 Bo) ∧ (Kd.N (Kd.slice 3 (Kd.int .i64)) 26 w' w.heap.size (fun k_=>(w.heap.size ≤ k_) ∧ some k_ ≠ (s_.2.2 : Value).ownBlock ∧ some k_ ≠ (.slice Aw Ah.length Ax : Value).ownBlock ∧ k_ ≠ Ac ∧ k_ ≠ Ae ∧ k_ ≠ Ag ∧ k_ ≠ Ak) s_.2.1 Cm) ∧ (Kd.N (Kd.slice 26 (Kd.slice 3 (Kd.int .i64))) 22 w' w.heap.size (fun k_=>(w.heap.size ≤ k_) ∧ some k_ ≠ (s_.1 : Value).ownBlock ∧ some k_ ≠ (s_.2.1 : Value).ownBlock ∧ some k_ ≠ (.slice Aw Ah.length Ax : Value).ownBlock ∧ k_ ≠ Ac ∧ k_ ≠ Ae ∧ k_ ≠ Ag ∧ k_ ≠ Ak) s_.2.2 Cd) ∧ (Kd.N (Kd.slice 26 (Kd.slice 3 (Kd.int .i64))) 22 w' w.heap.size (fun k_=>(w.heap.size ≤ k_) ∧ some k_ ≠ (s_.1 : Value).ownBlock ∧ some k_ ≠ (s_.2.1 : Value).ownBlock ∧ some k_ ≠ (s_.2.2 : Value).ownBlock ∧ k_ ≠ Ac ∧ k_ ≠ Ae ∧ k_ ≠ Ag ∧ k_ ≠ Ak) (.slice Aw Ah.length Ax) Ah) ∧ (w'.heap[Ac]? = some (.cells #[.int .i64 a0_0,.int .i64 a0_1,.int .i64 a0_2,.slice A0_3 l0_3.length c0_3,.slice A0_4 l0_4.length c0_4,.int .i64 a0_5] 25 (0,0))) ∧ (w'.heap[Ae]? = some (.cells #[.int .i64 a1_0,.int .i64 a1_1,.int .i64 a1_2,.slice A1_3 l1_3.length c1_3,.slice A1_4 l1_4.length c1_4,.int .i64 a1_5] 25 (0,0))) ∧ (w'.heap[Ag]? = some (.cells #[.int .i64 As,.int .i64 Ar,.int .i64 Ap,.slice none 0 0,.slice none 0 0,.int .i64 Ao] 25 (0,0))) ∧ (w'.heap[Ak]? = some (.cells #[.int .i64 (wrap64 (a0_0 * a1_0)),.int .i64 a0_1,.int .i64 a1_2,.slice A0 Al.length A1,.slice Aw Ah.length Ax,.int .i64 (wrap64 ((wrap64 (a0_5 * a1_0)) + a1_5))] 25 (0,0))) ∧ (Below w.heap.size w w')) ?_ ?_
                rotate_left
                ·intro hCont
                 refine two_ (i:=3) (j:=8) (Ni:=some 116) (Nj:=some 121) #[true,true,true,true,false,true,true,true,false,false,false,false,false,false] #[true,true,true,false,false,true,true,true,true,false,false,false,false,false] rfl rfl rfl rfl (two_of HT_.out (by kernel_rfl)) (by decide) (by decide) (fun K hK=>?_) (fun K hK=>?_)
                 ·skip
                  refine Kd.N_lit_step (Kd.slice 3 (Kd.int .i64)) _ 26 ?hg6 (N':=116) ?hd6 (xs:=([Az] : List (List Int))) (inner:=[.slice Cn Az.length Co]) (ok:=(fun k_=>(w.heap.size ≤ k_) ∧ some k_ ≠ (u12 : Value).ownBlock ∧ some k_ ≠ (.slice A0 Al.length A1 : Value).ownBlock ∧ some k_ ≠ (.slice Aw Ah.length Ax : Value).ownBlock ∧ k_ ≠ Ac ∧ k_ ≠ Ae ∧ k_ ≠ Ag ∧ k_ ≠ Ak)) (okp:=(fun k_=>(w.heap.size ≤ k_) ∧ some k_ ≠ (u12 : Value).ownBlock ∧ some k_ ≠ (.slice A0 Al.length A1 : Value).ownBlock ∧ some k_ ≠ (.slice Aw Ah.length Ax : Value).ownBlock ∧ k_ ≠ Ac ∧ k_ ≠ Ae ∧ k_ ≠ Ag ∧ k_ ≠ Ak)) ?hr6 ?hp6 (fun _ hk=>hk) ((show ∀ k_,w87.heap.size ≤ k_ → (fun k_=>(w.heap.size ≤ k_) ∧ some k_ ≠ (u12 : Value).ownBlock ∧ some k_ ≠ (.slice A0 Al.length A1 : Value).ownBlock ∧ some k_ ≠ (.slice Aw Ah.length Ax : Value).ownBlock ∧ k_ ≠ Ac ∧ k_ ≠ Ae ∧ k_ ≠ Ag ∧ k_ ≠ Ak) k_ from fun k_ hk=>⟨(Nat.le_trans (below_size qB7) hk),Kd.fresh' (Kd.N_lt (qN Aq.out)) k_ hk,Kd.fresh' (Kd.N_lt (qN Af.out)) k_ hk,Kd.fresh' (Kd.N_lt (qN Ad.out)) k_ hk,Kd.freshB (g:=Ac) (o:=.cells #[.int .i64 a0_0,.int .i64 a0_1,.int .i64 a0_2,.slice A0_3 l0_3.length c0_3,.slice A0_4 l0_4.length c0_4,.int .i64 a0_5] 25 (0,0)) (qD Aa.out) k_ hk,Kd.freshB (g:=Ae) (o:=.cells #[.int .i64 a1_0,.int .i64 a1_1,.int .i64 a1_2,.slice A1_3 l1_3.length c1_3,.slice A1_4 l1_4.length c1_4,.int .i64 a1_5] 25 (0,0)) (qD Ab.out) k_ hk,Kd.freshB (g:=Ag) (o:=.cells #[.int .i64 As,.int .i64 Ar,.int .i64 Ap,.slice none 0 0,.slice none 0 0,.int .i64 Ao] 25 (0,0)) (qD Ai.out) k_ hk,Kd.freshB (g:=Ak) (o:=.cells #[.int .i64 (wrap64 (a0_0 * a1_0)),.int .i64 a0_1,.int .i64 a1_2,.slice A0 Al.length A1,.slice Aw Ah.length Ax,.int .i64 (wrap64 ((wrap64 (a0_5 * a1_0)) + a1_5))] 25 (0,0)) (qD Aj.out) k_ hk⟩) _ (Nat.le_refl _)) (Below.refl _ _) (Nat.le_refl _) (by simp) ?_;(case hd6=>rfl);(case hg6=>rfl);(case hr6=>first|(go_simp;done)|(go_simp;rfl));(case hp6=>first|exact (Reps.one (show Kd.FK (Kd.slice 3 (Kd.int .i64)) _ _ Az [.slice Cn Az.length Co] from (Kd.FK_slice_mk (Kd.R_reads' (Kd.R_mono (ok':=(fun k_=>(w.heap.size ≤ k_) ∧ some k_ ≠ (u12 : Value).ownBlock ∧ some k_ ≠ (.slice A0 Al.length A1 : Value).ownBlock ∧ some k_ ≠ (.slice Aw Ah.length Ax : Value).ownBlock ∧ k_ ≠ Ac ∧ k_ ≠ Ae ∧ k_ ≠ Ag ∧ k_ ≠ Ak)) (Kd.R_types (Kd.R_types (Kd.R_types (Kd.R_types (Kd.R_apart' (Kd.R_apart' (Kd.R_apart' (Av.out) (Kd.N_typed Aq.out) (by decide)) (Kd.N_typed Af.out) (by decide)) (Kd.N_typed Ad.out) (by decide)) Aa.out (by decide)) Ab.out (by decide)) Ai.out (by decide)) Aj.out (by decide)) (fun k_ hk=>⟨hk.1.1.1.1.1.1.1,⟨hk.1.1.1.1.1.1.2,⟨hk.1.1.1.1.1.2,⟨hk.1.1.1.1.2,⟨hk.1.1.1.2,⟨hk.1.1.2,⟨hk.1.2,hk.2⟩⟩⟩⟩⟩⟩⟩))).2.1 (Kd.R_F (Kd.R_mono (ok':=(fun k_=>(w.heap.size ≤ k_) ∧ some k_ ≠ (u12 : Value).ownBlock ∧ some k_ ≠ (.slice A0 Al.length A1 : Value).ownBlock ∧ some k_ ≠ (.slice Aw Ah.length Ax : Value).ownBlock ∧ k_ ≠ Ac ∧ k_ ≠ Ae ∧ k_ ≠ Ag ∧ k_ ≠ Ak)) (Kd.R_types (Kd.R_types (Kd.R_types (Kd.R_types (Kd.R_apart' (Kd.R_apart' (Kd.R_apart' (Av.out) (Kd.N_typed Aq.out) (by decide)) (Kd.N_typed Af.out) (by decide)) (Kd.N_typed Ad.out) (by decide)) Aa.out (by decide)) Ab.out (by decide)) Ai.out (by decide)) Aj.out (by decide)) (fun k_ hk=>⟨hk.1.1.1.1.1.1.1,⟨hk.1.1.1.1.1.1.2,⟨hk.1.1.1.1.1.2,⟨hk.1.1.1.1.2,⟨hk.1.1.1.2,⟨hk.1.1.2,⟨hk.1.2,hk.2⟩⟩⟩⟩⟩⟩⟩))))) (Reps.none _ _))|exact (Reps.one (show Kd.FK (Kd.slice 3 (Kd.int .i64)) _ _ Az [.slice Cn Az.length Co] from (Kd.FK_slice_mk (Kd.R_reads' (Kd.R_mono (ok':=(fun k_=>(w.heap.size ≤ k_) ∧ some k_ ≠ (u12 : Value).ownBlock ∧ some k_ ≠ (.slice A0 Al.length A1 : Value).ownBlock ∧ some k_ ≠ (.slice Aw Ah.length Ax : Value).ownBlock ∧ k_ ≠ Ac ∧ k_ ≠ Ae ∧ k_ ≠ Ag ∧ k_ ≠ Ak)) (Kd.R_types (Kd.R_types (Kd.R_types (Kd.R_types (Kd.R_apart' (Kd.R_apart' (Kd.R_apart' (Av.out) (Kd.N_typed Aq.out) (by decide)) (Kd.N_typed Af.out) (by decide)) (Kd.N_typed Ad.out) (by decide)) Aa.out (by decide)) Ab.out (by decide)) Ai.out (by decide)) Aj.out (by decide)) (fun k_ hk=>⟨hk.1.1.1.1.1.1.1,⟨hk.1.1.1.1.1.1.2,⟨hk.1.1.1.1.1.2,⟨hk.1.1.1.1.2,⟨hk.1.1.1.2,⟨hk.1.1.2,⟨hk.1.2,hk.2⟩⟩⟩⟩⟩⟩⟩))).2.1 (Kd.R_F (Kd.R_mono (ok':=(fun k_=>(w.heap.size ≤ k_) ∧ some k_ ≠ (u12 : Value).ownBlock ∧ some k_ ≠ (.slice A0 Al.length A1 : Value).ownBlock ∧ some k_ ≠ (.slice Aw Ah.length Ax : Value).ownBlock ∧ k_ ≠ Ac ∧ k_ ≠ Ae ∧ k_ ≠ Ag ∧ k_ ≠ Ak)) (Kd.R_types (Kd.R_types (Kd.R_types (Kd.R_types (Kd.R_apart' (Kd.R_apart' (Kd.R_apart' (Av.out) (Kd.N_typed Aq.out) (by decide)) (Kd.N_typed Af.out) (by decide)) (Kd.N_typed Ad.out) (by decide)) Aa.out (by decide)) Ab.out (by decide)) Ai.out (by decide)) Aj.out (by decide)) (fun k_ hk=>⟨hk.1.1.1.1.1.1.1,⟨hk.1.1.1.1.1.1.2,⟨hk.1.1.1.1.1.2,⟨hk.1.1.1.1.2,⟨hk.1.1.1.2,⟨hk.1.1.2,⟨hk.1.2,hk.2⟩⟩⟩⟩⟩⟩⟩))))) (Reps.none _ _)))
                  intro v158 w89 ho90 hb hg_ hnew_
                  clear hg_ hnew_
                  (first|rw [← Ny157.out] at ho90|(simp only [Int.reduceToNat] at ho90;rw [← Ny157.out] at ho90))
                  have n0_:=Aside0.mk (Kd.N_elder' (qN Aq.out) (Kd.N_base ho90) hb)
                  have n1_:=Aside0.mk (Kd.N_elder' (qN Af.out) (Kd.N_base ho90) hb)
                  have n2_:=Aside0.mk (Kd.N_elder' (qN Ad.out) (Kd.N_base ho90) hb)
                  have n3_:=Aside0.mk (Kd.N_lower ho90 (below_size qB7))
                  have n4_:=Aside0.mk (blk_below (qD Aa.out) hb)
                  have n5_:=Aside0.mk (blk_below (qD Ab.out) hb)
                  have n6_:=Aside0.mk (blk_below (qD Ai.out) hb)
                  have n7_:=Aside0.mk (blk_below (qD Aj.out) hb)
                  have n8_:=Aside0.mk (below_step qB7 hb)
                  clear Aq
                  clear Af
                  clear Ad
                  clear Aa
                  clear Ab
                  clear Ai
                  clear Aj
                  clear HB
                  clear Av
                  have Aq:=n0_
                  have Af:=n1_
                  have Ad:=n2_
                  have A4:=n3_
                  have Aa:=n4_
                  have Ab:=n5_
                  have Ai:=n6_
                  have Aj:=n7_
                  have HB:=n8_
                  clear n0_ n1_ n2_ n3_ n4_ n5_ n6_ n7_ n8_
                  clear hb ho90
                  obtain ⟨B7,B8,eo92⟩:=Kd.N_slice A4.out
                  (first|subst eo92|(injection eo92 with f1_ f2_ f3_;have f4_:=f1_.symm;have f5_:=f3_.symm;clear f1_ f2_ f3_;subst f4_;subst f5_))
                  refine hK.out _ _ ⟨(blk_cell Aj.out 0).trans rfl,(blk_cell Aj.out 1).trans rfl,(blk_cell Aj.out 2).trans rfl,(blk_cell Aj.out 3).trans rfl,(blk_cell Aj.out 4).trans rfl,(blk_cell Aj.out 5).trans rfl⟩ (fun hHeld=>?_)
                  clear hK K
                  refine norm_ (a':=?_) ?_ ?_
                  rotate_left
                  ·show Act.put _ (some 116) _ = _
                   simp only [Act.put,List.setIfInBounds_toArray,List.set_cons_zero,List.set_cons_succ,i64_w,i32_w]
                   rfl
                  refine two_ (i:=4) (j:=8) (Ni:=some 117) (Nj:=some 121) #[true,true,true,true,true,true,true,true,false,false,false,false,false,false] #[true,true,true,true,false,true,true,true,true,false,false,false,false,false] rfl rfl rfl rfl (two_of HT_.out (by kernel_rfl)) (by decide) (by decide) (fun K hK=>?_) (fun K hK=>?_)
                  ·skip
                   refine Kd.N_append_rows_step (Kd.slice 3 (Kd.int .i64)) (w0:=w) w.heap.size (by rfl) (.tmp 114) (.tmp 116) 22 26 (.slice none 0 0) 24 rfl Try.underlying22 info26 rfl (by decide) (by omega) (.slice A0 Al.length A1) Al Bo _ _ _ (fun k_=>(w.heap.size ≤ k_) ∧ some k_ ≠ (u12 : Value).ownBlock ∧ some k_ ≠ (.slice Aw Ah.length Ax : Value).ownBlock ∧ k_ ≠ Ac ∧ k_ ≠ Ae ∧ k_ ≠ Ag ∧ k_ ≠ Ak) (fun k_=>((fun k_=>(w.heap.size ≤ k_) ∧ some k_ ≠ (u12 : Value).ownBlock ∧ some k_ ≠ (.slice Aw Ah.length Ax : Value).ownBlock ∧ k_ ≠ Ac ∧ k_ ≠ Ae ∧ k_ ≠ Ag ∧ k_ ≠ Ak)) k_ ∧ some k_ ≠ (.slice A0 Al.length A1 : Value).ownBlock) rfl rfl ?aO ?aR (fun _ hk=>hk) ?aF ?aB ?aS ?aL ?_
                   (case aR=>exact (by skip;exact Kd.N_F (Kd.N_mono (ok':=(fun k_=>((fun k_=>(w.heap.size ≤ k_) ∧ some k_ ≠ (u12 : Value).ownBlock ∧ some k_ ≠ (.slice Aw Ah.length Ax : Value).ownBlock ∧ k_ ≠ Ac ∧ k_ ≠ Ae ∧ k_ ≠ Ag ∧ k_ ≠ Ak)) k_ ∧ some k_ ≠ (.slice A0 Al.length A1 : Value).ownBlock)) (A4.out) (fun k_ hk=>⟨⟨hk.1,⟨hk.2.1,⟨hk.2.2.2.1,⟨hk.2.2.2.2.1,⟨hk.2.2.2.2.2.1,⟨hk.2.2.2.2.2.2.1,hk.2.2.2.2.2.2.2⟩⟩⟩⟩⟩⟩,hk.2.2.1⟩))))
                   (case aB=>exact qB7)
                   (case aF=>exact (fun k_ hk=>⟨(Nat.le_trans (below_size qB7) hk),Kd.fresh' (Kd.N_lt (qN Aq.out)) k_ hk,Kd.fresh' (Kd.N_lt (qN Ad.out)) k_ hk,Kd.freshB (g:=Ac) (o:=.cells #[.int .i64 a0_0,.int .i64 a0_1,.int .i64 a0_2,.slice A0_3 l0_3.length c0_3,.slice A0_4 l0_4.length c0_4,.int .i64 a0_5] 25 (0,0)) (qD Aa.out) k_ hk,Kd.freshB (g:=Ae) (o:=.cells #[.int .i64 a1_0,.int .i64 a1_1,.int .i64 a1_2,.slice A1_3 l1_3.length c1_3,.slice A1_4 l1_4.length c1_4,.int .i64 a1_5] 25 (0,0)) (qD Ab.out) k_ hk,Kd.freshB (g:=Ag) (o:=.cells #[.int .i64 As,.int .i64 Ar,.int .i64 Ap,.slice none 0 0,.slice none 0 0,.int .i64 Ao] 25 (0,0)) (qD Ai.out) k_ hk,Kd.freshB (g:=Ak) (o:=.cells #[.int .i64 (wrap64 (a0_0 * a1_0)),.int .i64 a0_1,.int .i64 a1_2,.slice A0 Al.length A1,.slice Aw Ah.length Ax,.int .i64 (wrap64 ((wrap64 (a0_5 * a1_0)) + a1_5))] 25 (0,0)) (qD Aj.out) k_ hk⟩))
                   (case aO=>exact (by (with_reducible repeat (first|apply Kd.N_alloc|apply Kd.N_drewN|apply Kd.N_drew));exact Kd.N_mono Af.out (fun _ hk=>⟨hk.1.1,⟨hk.1.2.2.1,⟨hk.1.2.2.2.1,⟨hk.1.2.2.2.2.1,⟨hk.1.2.2.2.2.2.1,⟨hk.1.2.2.2.2.2.2.1,hk.1.2.2.2.2.2.2.2⟩⟩⟩⟩⟩⟩)))
                   (case aS=>exact (below_size qB7))
                   (case aL=>have:=LMc83.out;omega)
                   intro v161 w91 ho hb hg hat
                   rw [← Ny160.out] at ho
                   have n0_:=Aside0.mk (Kd.N_afterv (ok:=(fun k_=>(w.heap.size ≤ k_) ∧ some k_ ≠ (.slice Aw Ah.length Ax : Value).ownBlock ∧ some k_ ≠ (.slice B7 Bo.length B8 : Value).ownBlock ∧ k_ ≠ Ac ∧ k_ ≠ Ae ∧ k_ ≠ Ag ∧ k_ ≠ Ak)) (by (with_reducible repeat (first|apply Kd.N_alloc|apply Kd.N_drewN|apply Kd.N_drew));exact Kd.N_mono Aq.out (fun _ hk=>⟨⟨hk.1.1,⟨hk.1.2.2.2.1,⟨hk.2,⟨hk.1.2.2.2.2.1,⟨hk.1.2.2.2.2.2.1,⟨hk.1.2.2.2.2.2.2.1,hk.1.2.2.2.2.2.2.2⟩⟩⟩⟩⟩⟩,hk.1.2.2.1⟩)) hg hat)
                   have n1_:=Aside0.mk (Kd.N_afterv (ok:=(fun k_=>(w.heap.size ≤ k_) ∧ some k_ ≠ (u12 : Value).ownBlock ∧ some k_ ≠ (.slice B7 Bo.length B8 : Value).ownBlock ∧ k_ ≠ Ac ∧ k_ ≠ Ae ∧ k_ ≠ Ag ∧ k_ ≠ Ak)) (by (with_reducible repeat (first|apply Kd.N_alloc|apply Kd.N_drewN|apply Kd.N_drew));exact Kd.N_mono Ad.out (fun _ hk=>⟨⟨hk.1.1,⟨hk.1.2.2.1,⟨hk.2,⟨hk.1.2.2.2.2.1,⟨hk.1.2.2.2.2.2.1,⟨hk.1.2.2.2.2.2.2.1,hk.1.2.2.2.2.2.2.2⟩⟩⟩⟩⟩⟩,hk.1.2.2.2.1⟩)) hg hat)
                   have n2_:=Aside0.mk (blk_grown (g:=Ac) (o:=.cells #[.int .i64 a0_0,.int .i64 a0_1,.int .i64 a0_2,.slice A0_3 l0_3.length c0_3,.slice A0_4 l0_4.length c0_4,.int .i64 a0_5] 25 (0,0)) (qD Aa.out) hg (Kd.N_ne Af.out Aa.out (by decide)))
                   have n3_:=Aside0.mk (blk_grown (g:=Ae) (o:=.cells #[.int .i64 a1_0,.int .i64 a1_1,.int .i64 a1_2,.slice A1_3 l1_3.length c1_3,.slice A1_4 l1_4.length c1_4,.int .i64 a1_5] 25 (0,0)) (qD Ab.out) hg (Kd.N_ne Af.out Ab.out (by decide)))
                   have n4_:=Aside0.mk (blk_grown (g:=Ag) (o:=.cells #[.int .i64 As,.int .i64 Ar,.int .i64 Ap,.slice none 0 0,.slice none 0 0,.int .i64 Ao] 25 (0,0)) (qD Ai.out) hg (Kd.N_ne Af.out Ai.out (by decide)))
                   have n5_:=Aside0.mk (blk_grown (g:=Ak) (o:=.cells #[.int .i64 (wrap64 (a0_0 * a1_0)),.int .i64 a0_1,.int .i64 a1_2,.slice A0 Al.length A1,.slice Aw Ah.length Ax,.int .i64 (wrap64 ((wrap64 (a0_5 * a1_0)) + a1_5))] 25 (0,0)) (qD Aj.out) hg (Kd.N_ne Af.out Aj.out (by decide)))
                   have n6_:=Aside0.mk (Kd.N_afterv (ok:=(fun k_=>(w.heap.size ≤ k_) ∧ some k_ ≠ (u12 : Value).ownBlock ∧ some k_ ≠ (.slice Aw Ah.length Ax : Value).ownBlock ∧ k_ ≠ Ac ∧ k_ ≠ Ae ∧ k_ ≠ Ag ∧ k_ ≠ Ak)) (by (with_reducible repeat (first|apply Kd.N_alloc|apply Kd.N_drewN|apply Kd.N_drew));exact Kd.N_mono A4.out (fun _ hk=>⟨⟨hk.1,⟨hk.2.1,⟨hk.2.2.2.1,⟨hk.2.2.2.2.1,⟨hk.2.2.2.2.2.1,⟨hk.2.2.2.2.2.2.1,hk.2.2.2.2.2.2.2⟩⟩⟩⟩⟩⟩,hk.2.2.1⟩)) hg hat)
                   have n7_:=Aside0.mk (hb)
                   have n8_:=Aside0.mk (ho)
                   clear Aq
                   clear Ad
                   clear Aa
                   clear Ab
                   clear Ai
                   clear Aj
                   clear A4
                   clear HB
                   clear Af
                   have Aq:=n0_
                   have Ad:=n1_
                   have Aa:=n2_
                   have Ab:=n3_
                   have Ai:=n4_
                   have Aj:=n5_
                   have A4:=n6_
                   have HB:=n7_
                   have Bv:=n8_
                   clear n0_ n1_ n2_ n3_ n4_ n5_ n6_ n7_ n8_
                   clear ho hb hg hat
                   obtain ⟨Ao93,co93,eo93⟩:=Kd.N_slice Aq.out
                   (first|subst eo93|(injection eo93 with f1_ f2_ f3_;have f4_:=f1_.symm;have f5_:=f3_.symm;clear f1_ f2_ f3_;subst f4_;subst f5_))
                   refine hK.out _ _ ⟨(blk_cell Aj.out 0).trans rfl,(blk_cell Aj.out 1).trans rfl,(blk_cell Aj.out 2).trans rfl,(blk_cell Aj.out 3).trans rfl,(blk_cell Aj.out 4).trans rfl,(blk_cell Aj.out 5).trans rfl⟩ (fun hHeld=>?_)
                   clear hK K
                   refine norm_ (a':=?_) ?_ ?_
                   rotate_left
                   ·show Act.put _ (some 117) _ = _
                    simp only [Act.put,List.setIfInBounds_toArray,List.set_cons_zero,List.set_cons_succ,i64_w,i32_w]
                    rfl
                   refine pure_ (i:=10) (N:=some 123) (v:=?_) (a':=?_) #[true,true,true,true,true,true,true,true,false,false,true,false,false,false] rfl rfl (any_of HT_.out (by kernel_rfl)) (fun _ _ _ h=>h) (Or.inl ⟨by rfl,?_⟩) ?_ ?_
                   rotate_left
                   ·intro w'
                    go_simp
                    with_reducible rfl
                   rotate_left
                   ·simp only [Act.put,List.setIfInBounds_toArray,List.set_cons_zero,List.set_cons_succ,i64_w,i32_w]
                    rfl
                   refine one_ (i:=8) (N:=some 121) #[true,true,true,true,true,true,true,true,true,false,true,false,false,false] rfl rfl (one_of HT_.out (by kernel_rfl)) (by decide) (fun K hK=>?_)
                   refine Kd.N_lit_step (Kd.slice 26 (Kd.slice 3 (Kd.int .i64))) _ 22 ?hg7 (N':=121) ?hd7 (xs:=([Au] : List (List (List Int)))) (inner:=[.slice Ao93 Au.length co93]) (ok:=(fun k_=>(w.heap.size ≤ k_) ∧ some k_ ≠ (.slice Aw Ah.length Ax : Value).ownBlock ∧ some k_ ≠ (.slice B7 Bo.length B8 : Value).ownBlock ∧ some k_ ≠ (v161 : Value).ownBlock ∧ k_ ≠ Ac ∧ k_ ≠ Ae ∧ k_ ≠ Ag ∧ k_ ≠ Ak)) (okp:=(fun k_=>(w.heap.size ≤ k_) ∧ some k_ ≠ (.slice Aw Ah.length Ax : Value).ownBlock ∧ some k_ ≠ (.slice B7 Bo.length B8 : Value).ownBlock ∧ some k_ ≠ (v161 : Value).ownBlock ∧ k_ ≠ Ac ∧ k_ ≠ Ae ∧ k_ ≠ Ag ∧ k_ ≠ Ak)) ?hr7 ?hp7 (fun _ hk=>hk) ((show ∀ k_,w91.heap.size ≤ k_ → (fun k_=>(w.heap.size ≤ k_) ∧ some k_ ≠ (.slice Aw Ah.length Ax : Value).ownBlock ∧ some k_ ≠ (.slice B7 Bo.length B8 : Value).ownBlock ∧ some k_ ≠ (v161 : Value).ownBlock ∧ k_ ≠ Ac ∧ k_ ≠ Ae ∧ k_ ≠ Ag ∧ k_ ≠ Ak) k_ from fun k_ hk=>⟨(Nat.le_trans (below_size qB7) hk),Kd.fresh' (Kd.N_lt (qN Ad.out)) k_ hk,Kd.fresh' (Kd.N_lt (qN A4.out)) k_ hk,Kd.fresh' (Kd.N_lt (qN Bv.out)) k_ hk,Kd.freshB (g:=Ac) (o:=.cells #[.int .i64 a0_0,.int .i64 a0_1,.int .i64 a0_2,.slice A0_3 l0_3.length c0_3,.slice A0_4 l0_4.length c0_4,.int .i64 a0_5] 25 (0,0)) (qD Aa.out) k_ hk,Kd.freshB (g:=Ae) (o:=.cells #[.int .i64 a1_0,.int .i64 a1_1,.int .i64 a1_2,.slice A1_3 l1_3.length c1_3,.slice A1_4 l1_4.length c1_4,.int .i64 a1_5] 25 (0,0)) (qD Ab.out) k_ hk,Kd.freshB (g:=Ag) (o:=.cells #[.int .i64 As,.int .i64 Ar,.int .i64 Ap,.slice none 0 0,.slice none 0 0,.int .i64 Ao] 25 (0,0)) (qD Ai.out) k_ hk,Kd.freshB (g:=Ak) (o:=.cells #[.int .i64 (wrap64 (a0_0 * a1_0)),.int .i64 a0_1,.int .i64 a1_2,.slice A0 Al.length A1,.slice Aw Ah.length Ax,.int .i64 (wrap64 ((wrap64 (a0_5 * a1_0)) + a1_5))] 25 (0,0)) (qD Aj.out) k_ hk⟩) _ (Nat.le_refl _)) (Below.refl _ _) (Nat.le_refl _) (by simp) ?_;(case hd7=>rfl);(case hg7=>rfl);(case hr7=>first|(go_simp;done)|(go_simp;rfl));(case hp7=>first|exact (Reps.one (show Kd.FK (Kd.slice 26 (Kd.slice 3 (Kd.int .i64))) _ _ Au [.slice Ao93 Au.length co93] from (Kd.FK_slice_mk (Kd.N_reads' (Kd.N_mono (ok':=(fun k_=>(w.heap.size ≤ k_) ∧ some k_ ≠ (.slice Aw Ah.length Ax : Value).ownBlock ∧ some k_ ≠ (.slice B7 Bo.length B8 : Value).ownBlock ∧ some k_ ≠ (v161 : Value).ownBlock ∧ k_ ≠ Ac ∧ k_ ≠ Ae ∧ k_ ≠ Ag ∧ k_ ≠ Ak)) (Aq.out) (fun k_ hk=>⟨hk.1.1,⟨hk.1.2.1,⟨hk.1.2.2.1,⟨hk.2,⟨hk.1.2.2.2.1,⟨hk.1.2.2.2.2.1,⟨hk.1.2.2.2.2.2.1,hk.1.2.2.2.2.2.2⟩⟩⟩⟩⟩⟩⟩))).2.1 (Kd.N_F (Kd.N_mono (ok':=(fun k_=>(w.heap.size ≤ k_) ∧ some k_ ≠ (.slice Aw Ah.length Ax : Value).ownBlock ∧ some k_ ≠ (.slice B7 Bo.length B8 : Value).ownBlock ∧ some k_ ≠ (v161 : Value).ownBlock ∧ k_ ≠ Ac ∧ k_ ≠ Ae ∧ k_ ≠ Ag ∧ k_ ≠ Ak)) (Aq.out) (fun k_ hk=>⟨hk.1.1,⟨hk.1.2.1,⟨hk.1.2.2.1,⟨hk.2,⟨hk.1.2.2.2.1,⟨hk.1.2.2.2.2.1,⟨hk.1.2.2.2.2.2.1,hk.1.2.2.2.2.2.2⟩⟩⟩⟩⟩⟩⟩))))) (Reps.none _ _))|exact (Reps.one (show Kd.FK (Kd.slice 26 (Kd.slice 3 (Kd.int .i64))) _ _ Au [.slice Ao93 Au.length co93] from (Kd.FK_slice_mk (Kd.N_reads' (Kd.N_mono (ok':=(fun k_=>(w.heap.size ≤ k_) ∧ some k_ ≠ (.slice Aw Ah.length Ax : Value).ownBlock ∧ some k_ ≠ (.slice B7 Bo.length B8 : Value).ownBlock ∧ some k_ ≠ (v161 : Value).ownBlock ∧ k_ ≠ Ac ∧ k_ ≠ Ae ∧ k_ ≠ Ag ∧ k_ ≠ Ak)) (Aq.out) (fun k_ hk=>⟨hk.1.1,⟨hk.1.2.1,⟨hk.1.2.2.1,⟨hk.2,⟨hk.1.2.2.2.1,⟨hk.1.2.2.2.2.1,⟨hk.1.2.2.2.2.2.1,hk.1.2.2.2.2.2.2⟩⟩⟩⟩⟩⟩⟩))).2.1 (Kd.N_F (Kd.N_mono (ok':=(fun k_=>(w.heap.size ≤ k_) ∧ some k_ ≠ (.slice Aw Ah.length Ax : Value).ownBlock ∧ some k_ ≠ (.slice B7 Bo.length B8 : Value).ownBlock ∧ some k_ ≠ (v161 : Value).ownBlock ∧ k_ ≠ Ac ∧ k_ ≠ Ae ∧ k_ ≠ Ag ∧ k_ ≠ Ak)) (Kd.N_drewN Aq.out _) (fun k_ hk=>⟨hk.1.1,⟨hk.1.2.1,⟨hk.1.2.2.1,⟨hk.2,⟨hk.1.2.2.2.1,⟨hk.1.2.2.2.2.1,⟨hk.1.2.2.2.2.2.1,hk.1.2.2.2.2.2.2⟩⟩⟩⟩⟩⟩⟩))))) (Reps.none _ _)))
                   intro v164 w94 ho95 hb hg_ hnew_
                   clear hg_ hnew_
                   (first|rw [← Ny163.out] at ho95|(simp only [Int.reduceToNat] at ho95;rw [← Ny163.out] at ho95))
                   have n0_:=Aside0.mk (Kd.N_elder' (qN Ad.out) (Kd.N_base ho95) hb)
                   have n1_:=Aside0.mk (Kd.N_elder' (qN A4.out) (Kd.N_base ho95) hb)
                   have n2_:=Aside0.mk (Kd.N_elder' (qN Bv.out) (Kd.N_base ho95) hb)
                   have n3_:=Aside0.mk (Kd.N_lower ho95 (below_size qB7))
                   have n4_:=Aside0.mk (blk_below (qD Aa.out) hb)
                   have n5_:=Aside0.mk (blk_below (qD Ab.out) hb)
                   have n6_:=Aside0.mk (blk_below (qD Ai.out) hb)
                   have n7_:=Aside0.mk (blk_below (qD Aj.out) hb)
                   have n8_:=Aside0.mk (below_step qB7 hb)
                   clear Ad
                   clear A4
                   clear Bv
                   clear Aa
                   clear Ab
                   clear Ai
                   clear Aj
                   clear HB
                   clear Aq
                   have Ad:=n0_
                   have A4:=n1_
                   have Bv:=n2_
                   have Bi:=n3_
                   have Aa:=n4_
                   have Ab:=n5_
                   have Ai:=n6_
                   have Aj:=n7_
                   have HB:=n8_
                   clear n0_ n1_ n2_ n3_ n4_ n5_ n6_ n7_ n8_
                   clear hb ho95
                   refine hK.out _ _ ⟨(blk_cell Aj.out 0).trans rfl,(blk_cell Aj.out 1).trans rfl,(blk_cell Aj.out 2).trans rfl,(blk_cell Aj.out 3).trans rfl,(blk_cell Aj.out 4).trans rfl,(blk_cell Aj.out 5).trans rfl⟩ (fun hHeld=>?_)
                   clear hK K
                   refine norm_ (a':=?_) ?_ ?_
                   rotate_left
                   ·show Act.put _ (some 121) _ = _
                    simp only [Act.put,List.setIfInBounds_toArray,List.set_cons_zero,List.set_cons_succ,i64_w,i32_w]
                    rfl
                   exact norm_ (by simp only [putAll,Act.put,List.setIfInBounds_toArray,List.set_cons_zero,List.set_cons_succ]) (hCont (.slice B7 Bo.length B8,v161,v164) _ ⟨hHeld,(by (with_reducible repeat (first|apply Kd.N_alloc|apply Kd.N_drewN|apply Kd.N_drew));exact Kd.N_mono A4.out (fun _ hk=>⟨hk.1.1.1,⟨hk.1.2,⟨hk.2,⟨hk.1.1.2.2.1,⟨hk.1.1.2.2.2.1,⟨hk.1.1.2.2.2.2.1,⟨hk.1.1.2.2.2.2.2.1,hk.1.1.2.2.2.2.2.2⟩⟩⟩⟩⟩⟩⟩)),(by (with_reducible repeat (first|apply Kd.N_alloc|apply Kd.N_drewN|apply Kd.N_drew));exact Kd.N_mono Bv.out (fun _ hk=>⟨hk.1.1,⟨hk.2,⟨hk.1.2.2.1,⟨hk.1.2.2.2.1,⟨hk.1.2.2.2.2.1,⟨hk.1.2.2.2.2.2.1,hk.1.2.2.2.2.2.2⟩⟩⟩⟩⟩⟩)),(by (with_reducible repeat (first|apply Kd.N_alloc|apply Kd.N_drewN|apply Kd.N_drew));exact Kd.N_mono Bi.out (fun _ hk=>⟨hk.1,⟨hk.2.2.1,⟨hk.2.2.2.1,⟨hk.2.1,⟨hk.2.2.2.2.1,⟨hk.2.2.2.2.2.1,⟨hk.2.2.2.2.2.2.1,hk.2.2.2.2.2.2.2⟩⟩⟩⟩⟩⟩⟩)),(by (with_reducible repeat (first|apply Kd.N_alloc|apply Kd.N_drewN|apply Kd.N_drew));exact Kd.N_mono Ad.out (fun _ hk=>⟨hk.1.1.1,⟨hk.1.1.2.2.1,⟨hk.1.2,⟨hk.2,⟨hk.1.1.2.2.2.1,⟨hk.1.1.2.2.2.2.1,⟨hk.1.1.2.2.2.2.2.1,hk.1.1.2.2.2.2.2.2⟩⟩⟩⟩⟩⟩⟩)),(qD Aa.out),(qD Ab.out),(qD Ai.out),(qD Aj.out),qB7⟩)
                  ·skip
                   obtain ⟨Ao91,co91,eo91⟩:=Kd.N_slice Aq.out
                   (first|subst eo91|(injection eo91 with f1_ f2_ f3_;have f4_:=f1_.symm;have f5_:=f3_.symm;clear f1_ f2_ f3_;subst f4_;subst f5_))
                   refine Kd.N_lit_step (Kd.slice 26 (Kd.slice 3 (Kd.int .i64))) _ 22 ?hg8 (N':=121) ?hd8 (xs:=([Au] : List (List (List Int)))) (inner:=[.slice Ao91 Au.length co91]) (ok:=(fun k_=>(w.heap.size ≤ k_) ∧ some k_ ≠ (.slice A0 Al.length A1 : Value).ownBlock ∧ some k_ ≠ (.slice Aw Ah.length Ax : Value).ownBlock ∧ some k_ ≠ (.slice B7 Bo.length B8 : Value).ownBlock ∧ k_ ≠ Ac ∧ k_ ≠ Ae ∧ k_ ≠ Ag ∧ k_ ≠ Ak)) (okp:=(fun k_=>(w.heap.size ≤ k_) ∧ some k_ ≠ (.slice A0 Al.length A1 : Value).ownBlock ∧ some k_ ≠ (.slice Aw Ah.length Ax : Value).ownBlock ∧ some k_ ≠ (.slice B7 Bo.length B8 : Value).ownBlock ∧ k_ ≠ Ac ∧ k_ ≠ Ae ∧ k_ ≠ Ag ∧ k_ ≠ Ak)) ?hr8 ?hp8 (fun _ hk=>hk) ((show ∀ k_,w89.heap.size ≤ k_ → (fun k_=>(w.heap.size ≤ k_) ∧ some k_ ≠ (.slice A0 Al.length A1 : Value).ownBlock ∧ some k_ ≠ (.slice Aw Ah.length Ax : Value).ownBlock ∧ some k_ ≠ (.slice B7 Bo.length B8 : Value).ownBlock ∧ k_ ≠ Ac ∧ k_ ≠ Ae ∧ k_ ≠ Ag ∧ k_ ≠ Ak) k_ from fun k_ hk=>⟨(Nat.le_trans (below_size qB7) hk),Kd.fresh' (Kd.N_lt (qN Af.out)) k_ hk,Kd.fresh' (Kd.N_lt (qN Ad.out)) k_ hk,Kd.fresh' (Kd.N_lt (qN A4.out)) k_ hk,Kd.freshB (g:=Ac) (o:=.cells #[.int .i64 a0_0,.int .i64 a0_1,.int .i64 a0_2,.slice A0_3 l0_3.length c0_3,.slice A0_4 l0_4.length c0_4,.int .i64 a0_5] 25 (0,0)) (qD Aa.out) k_ hk,Kd.freshB (g:=Ae) (o:=.cells #[.int .i64 a1_0,.int .i64 a1_1,.int .i64 a1_2,.slice A1_3 l1_3.length c1_3,.slice A1_4 l1_4.length c1_4,.int .i64 a1_5] 25 (0,0)) (qD Ab.out) k_ hk,Kd.freshB (g:=Ag) (o:=.cells #[.int .i64 As,.int .i64 Ar,.int .i64 Ap,.slice none 0 0,.slice none 0 0,.int .i64 Ao] 25 (0,0)) (qD Ai.out) k_ hk,Kd.freshB (g:=Ak) (o:=.cells #[.int .i64 (wrap64 (a0_0 * a1_0)),.int .i64 a0_1,.int .i64 a1_2,.slice A0 Al.length A1,.slice Aw Ah.length Ax,.int .i64 (wrap64 ((wrap64 (a0_5 * a1_0)) + a1_5))] 25 (0,0)) (qD Aj.out) k_ hk⟩) _ (Nat.le_refl _)) (Below.refl _ _) (Nat.le_refl _) (by simp) ?_;(case hd8=>rfl);(case hg8=>rfl);(case hr8=>first|(go_simp;done)|(go_simp;rfl));(case hp8=>first|exact (Reps.one (show Kd.FK (Kd.slice 26 (Kd.slice 3 (Kd.int .i64))) _ _ Au [.slice Ao91 Au.length co91] from (Kd.FK_slice_mk (Kd.N_reads' (Kd.N_mono (ok':=(fun k_=>(w.heap.size ≤ k_) ∧ some k_ ≠ (.slice A0 Al.length A1 : Value).ownBlock ∧ some k_ ≠ (.slice Aw Ah.length Ax : Value).ownBlock ∧ some k_ ≠ (.slice B7 Bo.length B8 : Value).ownBlock ∧ k_ ≠ Ac ∧ k_ ≠ Ae ∧ k_ ≠ Ag ∧ k_ ≠ Ak)) (Aq.out) (fun k_ hk=>⟨hk.1.1,⟨hk.1.2.2.1,⟨hk.1.2.2.2.1,⟨hk.2,⟨hk.1.2.2.2.2.1,⟨hk.1.2.2.2.2.2.1,⟨hk.1.2.2.2.2.2.2.1,hk.1.2.2.2.2.2.2.2⟩⟩⟩⟩⟩⟩⟩))).2.1 (Kd.N_F (Kd.N_mono (ok':=(fun k_=>(w.heap.size ≤ k_) ∧ some k_ ≠ (.slice A0 Al.length A1 : Value).ownBlock ∧ some k_ ≠ (.slice Aw Ah.length Ax : Value).ownBlock ∧ some k_ ≠ (.slice B7 Bo.length B8 : Value).ownBlock ∧ k_ ≠ Ac ∧ k_ ≠ Ae ∧ k_ ≠ Ag ∧ k_ ≠ Ak)) (Aq.out) (fun k_ hk=>⟨hk.1.1,⟨hk.1.2.2.1,⟨hk.1.2.2.2.1,⟨hk.2,⟨hk.1.2.2.2.2.1,⟨hk.1.2.2.2.2.2.1,⟨hk.1.2.2.2.2.2.2.1,hk.1.2.2.2.2.2.2.2⟩⟩⟩⟩⟩⟩⟩))))) (Reps.none _ _))|exact (Reps.one (show Kd.FK (Kd.slice 26 (Kd.slice 3 (Kd.int .i64))) _ _ Au [.slice Ao91 Au.length co91] from (Kd.FK_slice_mk (Kd.N_reads' (Kd.N_mono (ok':=(fun k_=>(w.heap.size ≤ k_) ∧ some k_ ≠ (.slice A0 Al.length A1 : Value).ownBlock ∧ some k_ ≠ (.slice Aw Ah.length Ax : Value).ownBlock ∧ some k_ ≠ (.slice B7 Bo.length B8 : Value).ownBlock ∧ k_ ≠ Ac ∧ k_ ≠ Ae ∧ k_ ≠ Ag ∧ k_ ≠ Ak)) (Aq.out) (fun k_ hk=>⟨hk.1.1,⟨hk.1.2.2.1,⟨hk.1.2.2.2.1,⟨hk.2,⟨hk.1.2.2.2.2.1,⟨hk.1.2.2.2.2.2.1,⟨hk.1.2.2.2.2.2.2.1,hk.1.2.2.2.2.2.2.2⟩⟩⟩⟩⟩⟩⟩))).2.1 (Kd.N_F (Kd.N_mono (ok':=(fun k_=>(w.heap.size ≤ k_) ∧ some k_ ≠ (.slice A0 Al.length A1 : Value).ownBlock ∧ some k_ ≠ (.slice Aw Ah.length Ax : Value).ownBlock ∧ some k_ ≠ (.slice B7 Bo.length B8 : Value).ownBlock ∧ k_ ≠ Ac ∧ k_ ≠ Ae ∧ k_ ≠ Ag ∧ k_ ≠ Ak)) (Kd.N_drewN Aq.out _) (fun k_ hk=>⟨hk.1.1,⟨hk.1.2.2.1,⟨hk.1.2.2.2.1,⟨hk.2,⟨hk.1.2.2.2.2.1,⟨hk.1.2.2.2.2.2.1,⟨hk.1.2.2.2.2.2.2.1,hk.1.2.2.2.2.2.2.2⟩⟩⟩⟩⟩⟩⟩))))) (Reps.none _ _)))
                   intro v164 w92 ho93 hb hg_ hnew_
                   clear hg_ hnew_
                   (first|rw [← Ny163.out] at ho93|(simp only [Int.reduceToNat] at ho93;rw [← Ny163.out] at ho93))
                   have n0_:=Aside0.mk (Kd.N_elder' (qN Af.out) (Kd.N_base ho93) hb)
                   have n1_:=Aside0.mk (Kd.N_elder' (qN Ad.out) (Kd.N_base ho93) hb)
                   have n2_:=Aside0.mk (Kd.N_elder' (qN A4.out) (Kd.N_base ho93) hb)
                   have n3_:=Aside0.mk (Kd.N_lower ho93 (below_size qB7))
                   have n4_:=Aside0.mk (blk_below (qD Aa.out) hb)
                   have n5_:=Aside0.mk (blk_below (qD Ab.out) hb)
                   have n6_:=Aside0.mk (blk_below (qD Ai.out) hb)
                   have n7_:=Aside0.mk (blk_below (qD Aj.out) hb)
                   have n8_:=Aside0.mk (below_step qB7 hb)
                   clear Af
                   clear Ad
                   clear A4
                   clear Aa
                   clear Ab
                   clear Ai
                   clear Aj
                   clear HB
                   clear Aq
                   have Af:=n0_
                   have Ad:=n1_
                   have A4:=n2_
                   have Bi:=n3_
                   have Aa:=n4_
                   have Ab:=n5_
                   have Ai:=n6_
                   have Aj:=n7_
                   have HB:=n8_
                   clear n0_ n1_ n2_ n3_ n4_ n5_ n6_ n7_ n8_
                   clear hb ho93
                   obtain ⟨Ao95,co95,eo95⟩:=Kd.N_slice A4.out
                   (first|subst eo95|(injection eo95 with f1_ f2_ f3_;have f4_:=f1_.symm;have f5_:=f3_.symm;clear f1_ f2_ f3_;subst f4_;subst f5_))
                   refine hK.out _ _ ⟨(blk_cell Aj.out 0).trans rfl,(blk_cell Aj.out 1).trans rfl,(blk_cell Aj.out 2).trans rfl,(blk_cell Aj.out 3).trans rfl,(blk_cell Aj.out 4).trans rfl,(blk_cell Aj.out 5).trans rfl⟩ (fun hHeld=>?_)
                   clear hK K
                   refine norm_ (a':=?_) ?_ ?_
                   rotate_left
                   ·show Act.put _ (some 121) _ = _
                    simp only [Act.put,List.setIfInBounds_toArray,List.set_cons_zero,List.set_cons_succ,i64_w,i32_w]
                    rfl
                   refine one_ (i:=4) (N:=some 117) #[true,true,true,true,true,true,true,true,true,false,false,false,false,false] rfl rfl (one_of HT_.out (by kernel_rfl)) (by decide) (fun K hK=>?_)
                   refine Kd.N_append_rows_step (Kd.slice 3 (Kd.int .i64)) (w0:=w) w.heap.size (by rfl) (.tmp 114) (.tmp 116) 22 26 (.slice none 0 0) 24 rfl Try.underlying22 info26 rfl (by decide) (by omega) (.slice A0 Al.length A1) Al Bo _ _ _ (fun k_=>(w.heap.size ≤ k_) ∧ some k_ ≠ (.slice Aw Ah.length Ax : Value).ownBlock ∧ some k_ ≠ (v164 : Value).ownBlock ∧ k_ ≠ Ac ∧ k_ ≠ Ae ∧ k_ ≠ Ag ∧ k_ ≠ Ak) (fun k_=>((fun k_=>(w.heap.size ≤ k_) ∧ some k_ ≠ (.slice Aw Ah.length Ax : Value).ownBlock ∧ some k_ ≠ (v164 : Value).ownBlock ∧ k_ ≠ Ac ∧ k_ ≠ Ae ∧ k_ ≠ Ag ∧ k_ ≠ Ak)) k_ ∧ some k_ ≠ (.slice A0 Al.length A1 : Value).ownBlock) rfl rfl ?aO ?aR (fun _ hk=>hk) ?aF ?aB ?aS ?aL ?_
                   (case aR=>exact (by skip;exact Kd.N_F (Kd.N_mono (ok':=(fun k_=>((fun k_=>(w.heap.size ≤ k_) ∧ some k_ ≠ (.slice Aw Ah.length Ax : Value).ownBlock ∧ some k_ ≠ (v164 : Value).ownBlock ∧ k_ ≠ Ac ∧ k_ ≠ Ae ∧ k_ ≠ Ag ∧ k_ ≠ Ak)) k_ ∧ some k_ ≠ (.slice A0 Al.length A1 : Value).ownBlock)) (A4.out) (fun k_ hk=>⟨⟨hk.1.1,⟨hk.1.2.2.2.1,⟨hk.2,⟨hk.1.2.2.2.2.1,⟨hk.1.2.2.2.2.2.1,⟨hk.1.2.2.2.2.2.2.1,hk.1.2.2.2.2.2.2.2⟩⟩⟩⟩⟩⟩,hk.1.2.2.1⟩))))
                   (case aB=>exact qB7)
                   (case aF=>exact (fun k_ hk=>⟨(Nat.le_trans (below_size qB7) hk),Kd.fresh' (Kd.N_lt (qN Ad.out)) k_ hk,Kd.fresh' (Kd.N_lt (qN Bi.out)) k_ hk,Kd.freshB (g:=Ac) (o:=.cells #[.int .i64 a0_0,.int .i64 a0_1,.int .i64 a0_2,.slice A0_3 l0_3.length c0_3,.slice A0_4 l0_4.length c0_4,.int .i64 a0_5] 25 (0,0)) (qD Aa.out) k_ hk,Kd.freshB (g:=Ae) (o:=.cells #[.int .i64 a1_0,.int .i64 a1_1,.int .i64 a1_2,.slice A1_3 l1_3.length c1_3,.slice A1_4 l1_4.length c1_4,.int .i64 a1_5] 25 (0,0)) (qD Ab.out) k_ hk,Kd.freshB (g:=Ag) (o:=.cells #[.int .i64 As,.int .i64 Ar,.int .i64 Ap,.slice none 0 0,.slice none 0 0,.int .i64 Ao] 25 (0,0)) (qD Ai.out) k_ hk,Kd.freshB (g:=Ak) (o:=.cells #[.int .i64 (wrap64 (a0_0 * a1_0)),.int .i64 a0_1,.int .i64 a1_2,.slice A0 Al.length A1,.slice Aw Ah.length Ax,.int .i64 (wrap64 ((wrap64 (a0_5 * a1_0)) + a1_5))] 25 (0,0)) (qD Aj.out) k_ hk⟩))
                   (case aO=>exact (by (with_reducible repeat (first|apply Kd.N_alloc|apply Kd.N_drewN|apply Kd.N_drew));exact Kd.N_mono Af.out (fun _ hk=>⟨hk.1.1.1,⟨hk.1.1.2.2.2.1,⟨hk.2,⟨hk.1.1.2.2.2.2.1,⟨hk.1.1.2.2.2.2.2.1,⟨hk.1.1.2.2.2.2.2.2.1,hk.1.1.2.2.2.2.2.2.2⟩⟩⟩⟩⟩⟩)))
                   (case aS=>exact (below_size qB7))
                   (case aL=>have:=LMc83.out;omega)
                   intro v161 w94 ho hb hg hat
                   rw [← Ny160.out] at ho
                   have n0_:=Aside0.mk (Kd.N_afterv (ok:=(fun k_=>(w.heap.size ≤ k_) ∧ some k_ ≠ (.slice Ao95 Bo.length co95 : Value).ownBlock ∧ some k_ ≠ (v164 : Value).ownBlock ∧ k_ ≠ Ac ∧ k_ ≠ Ae ∧ k_ ≠ Ag ∧ k_ ≠ Ak)) (by (with_reducible repeat (first|apply Kd.N_alloc|apply Kd.N_drewN|apply Kd.N_drew));exact Kd.N_mono Ad.out (fun _ hk=>⟨⟨hk.1.1.1,⟨hk.1.2,⟨hk.2,⟨hk.1.1.2.2.2.2.1,⟨hk.1.1.2.2.2.2.2.1,⟨hk.1.1.2.2.2.2.2.2.1,hk.1.1.2.2.2.2.2.2.2⟩⟩⟩⟩⟩⟩,hk.1.1.2.2.2.1⟩)) hg hat)
                   have n1_:=Aside0.mk (blk_grown (g:=Ac) (o:=.cells #[.int .i64 a0_0,.int .i64 a0_1,.int .i64 a0_2,.slice A0_3 l0_3.length c0_3,.slice A0_4 l0_4.length c0_4,.int .i64 a0_5] 25 (0,0)) (qD Aa.out) hg (Kd.N_ne Af.out Aa.out (by decide)))
                   have n2_:=Aside0.mk (blk_grown (g:=Ae) (o:=.cells #[.int .i64 a1_0,.int .i64 a1_1,.int .i64 a1_2,.slice A1_3 l1_3.length c1_3,.slice A1_4 l1_4.length c1_4,.int .i64 a1_5] 25 (0,0)) (qD Ab.out) hg (Kd.N_ne Af.out Ab.out (by decide)))
                   have n3_:=Aside0.mk (blk_grown (g:=Ag) (o:=.cells #[.int .i64 As,.int .i64 Ar,.int .i64 Ap,.slice none 0 0,.slice none 0 0,.int .i64 Ao] 25 (0,0)) (qD Ai.out) hg (Kd.N_ne Af.out Ai.out (by decide)))
                   have n4_:=Aside0.mk (blk_grown (g:=Ak) (o:=.cells #[.int .i64 (wrap64 (a0_0 * a1_0)),.int .i64 a0_1,.int .i64 a1_2,.slice A0 Al.length A1,.slice Aw Ah.length Ax,.int .i64 (wrap64 ((wrap64 (a0_5 * a1_0)) + a1_5))] 25 (0,0)) (qD Aj.out) hg (Kd.N_ne Af.out Aj.out (by decide)))
                   have n5_:=Aside0.mk (Kd.N_afterv (ok:=(fun k_=>(w.heap.size ≤ k_) ∧ some k_ ≠ (.slice Aw Ah.length Ax : Value).ownBlock ∧ some k_ ≠ (v164 : Value).ownBlock ∧ k_ ≠ Ac ∧ k_ ≠ Ae ∧ k_ ≠ Ag ∧ k_ ≠ Ak)) (by (with_reducible repeat (first|apply Kd.N_alloc|apply Kd.N_drewN|apply Kd.N_drew));exact Kd.N_mono A4.out (fun _ hk=>⟨⟨hk.1.1,⟨hk.1.2.2.2.1,⟨hk.2,⟨hk.1.2.2.2.2.1,⟨hk.1.2.2.2.2.2.1,⟨hk.1.2.2.2.2.2.2.1,hk.1.2.2.2.2.2.2.2⟩⟩⟩⟩⟩⟩,hk.1.2.2.1⟩)) hg hat)
                   have n6_:=Aside0.mk (Kd.N_afterv (ok:=(fun k_=>(w.heap.size ≤ k_) ∧ some k_ ≠ (.slice Aw Ah.length Ax : Value).ownBlock ∧ some k_ ≠ (.slice Ao95 Bo.length co95 : Value).ownBlock ∧ k_ ≠ Ac ∧ k_ ≠ Ae ∧ k_ ≠ Ag ∧ k_ ≠ Ak)) (by (with_reducible repeat (first|apply Kd.N_alloc|apply Kd.N_drewN|apply Kd.N_drew));exact Kd.N_mono Bi.out (fun _ hk=>⟨⟨hk.1,⟨hk.2.2.1,⟨hk.2.2.2.1,⟨hk.2.2.2.2.1,⟨hk.2.2.2.2.2.1,⟨hk.2.2.2.2.2.2.1,hk.2.2.2.2.2.2.2⟩⟩⟩⟩⟩⟩,hk.2.1⟩)) hg hat)
                   have n7_:=Aside0.mk (hb)
                   have n8_:=Aside0.mk (ho)
                   clear Ad
                   clear Aa
                   clear Ab
                   clear Ai
                   clear Aj
                   clear A4
                   clear Bi
                   clear HB
                   clear Af
                   have Ad:=n0_
                   have Aa:=n1_
                   have Ab:=n2_
                   have Ai:=n3_
                   have Aj:=n4_
                   have A4:=n5_
                   have Bi:=n6_
                   have HB:=n7_
                   have Bv:=n8_
                   clear n0_ n1_ n2_ n3_ n4_ n5_ n6_ n7_ n8_
                   clear ho hb hg hat
                   refine hK.out _ _ ⟨(blk_cell Aj.out 0).trans rfl,(blk_cell Aj.out 1).trans rfl,(blk_cell Aj.out 2).trans rfl,(blk_cell Aj.out 3).trans rfl,(blk_cell Aj.out 4).trans rfl,(blk_cell Aj.out 5).trans rfl⟩ (fun hHeld=>?_)
                   clear hK K
                   refine norm_ (a':=?_) ?_ ?_
                   rotate_left
                   ·show Act.put _ (some 117) _ = _
                    simp only [Act.put,List.setIfInBounds_toArray,List.set_cons_zero,List.set_cons_succ,i64_w,i32_w]
                    rfl
                   refine pure_ (i:=10) (N:=some 123) (v:=?_) (a':=?_) #[true,true,true,true,true,true,true,true,true,false,true,false,false,false] rfl rfl (any_of HT_.out (by kernel_rfl)) (fun _ _ _ h=>h) (Or.inl ⟨by rfl,?_⟩) ?_ ?_
                   rotate_left
                   ·intro w'
                    go_simp
                    with_reducible rfl
                   rotate_left
                   ·simp only [Act.put,List.setIfInBounds_toArray,List.set_cons_zero,List.set_cons_succ,i64_w,i32_w]
                    rfl
                   exact norm_ (by simp only [putAll,Act.put,List.setIfInBounds_toArray,List.set_cons_zero,List.set_cons_succ]) (hCont (.slice Ao95 Bo.length co95,v161,v164) _ ⟨hHeld,(by (with_reducible repeat (first|apply Kd.N_alloc|apply Kd.N_drewN|apply Kd.N_drew));exact Kd.N_mono A4.out (fun _ hk=>⟨hk.1.1,⟨hk.2,⟨hk.1.2.2.1,⟨hk.1.2.1,⟨hk.1.2.2.2.1,⟨hk.1.2.2.2.2.1,⟨hk.1.2.2.2.2.2.1,hk.1.2.2.2.2.2.2⟩⟩⟩⟩⟩⟩⟩)),(by (with_reducible repeat (first|apply Kd.N_alloc|apply Kd.N_drewN|apply Kd.N_drew));exact Kd.N_mono Bv.out (fun _ hk=>⟨hk.1,⟨hk.2.2.1,⟨hk.2.1,⟨hk.2.2.2.1,⟨hk.2.2.2.2.1,⟨hk.2.2.2.2.2.1,hk.2.2.2.2.2.2⟩⟩⟩⟩⟩⟩)),(by (with_reducible repeat (first|apply Kd.N_alloc|apply Kd.N_drewN|apply Kd.N_drew));exact Kd.N_mono Bi.out (fun _ hk=>⟨hk.1.1,⟨hk.1.2.2.1,⟨hk.2,⟨hk.1.2.1,⟨hk.1.2.2.2.1,⟨hk.1.2.2.2.2.1,⟨hk.1.2.2.2.2.2.1,hk.1.2.2.2.2.2.2⟩⟩⟩⟩⟩⟩⟩)),(by (with_reducible repeat (first|apply Kd.N_alloc|apply Kd.N_drewN|apply Kd.N_drew));exact Kd.N_mono Ad.out (fun _ hk=>⟨hk.1.1,⟨hk.1.2.1,⟨hk.2,⟨hk.1.2.2.1,⟨hk.1.2.2.2.1,⟨hk.1.2.2.2.2.1,⟨hk.1.2.2.2.2.2.1,hk.1.2.2.2.2.2.2⟩⟩⟩⟩⟩⟩⟩)),(qD Aa.out),(qD Ab.out),(qD Ai.out),(qD Aj.out),qB7⟩)
                 ·skip
                  obtain ⟨Ao88b,co88b,eo88b⟩:=Kd.N_slice Aq.out
                  (first|subst eo88b|(injection eo88b with f1_ f2_ f3_;have f4_:=f1_.symm;have f5_:=f3_.symm;clear f1_ f2_ f3_;subst f4_;subst f5_))
                  refine Kd.N_lit_step (Kd.slice 26 (Kd.slice 3 (Kd.int .i64))) _ 22 ?hg9 (N':=121) ?hd9 (xs:=([Au] : List (List (List Int)))) (inner:=[.slice Ao88b Au.length co88b]) (ok:=(fun k_=>(w.heap.size ≤ k_) ∧ some k_ ≠ (.slice Cn Az.length Co : Value).ownBlock ∧ some k_ ≠ (.slice A0 Al.length A1 : Value).ownBlock ∧ some k_ ≠ (.slice Aw Ah.length Ax : Value).ownBlock ∧ k_ ≠ Ac ∧ k_ ≠ Ae ∧ k_ ≠ Ag ∧ k_ ≠ Ak)) (okp:=(fun k_=>(w.heap.size ≤ k_) ∧ some k_ ≠ (.slice Cn Az.length Co : Value).ownBlock ∧ some k_ ≠ (.slice A0 Al.length A1 : Value).ownBlock ∧ some k_ ≠ (.slice Aw Ah.length Ax : Value).ownBlock ∧ k_ ≠ Ac ∧ k_ ≠ Ae ∧ k_ ≠ Ag ∧ k_ ≠ Ak)) ?hr9 ?hp9 (fun _ hk=>hk) ((show ∀ k_,w87.heap.size ≤ k_ → (fun k_=>(w.heap.size ≤ k_) ∧ some k_ ≠ (.slice Cn Az.length Co : Value).ownBlock ∧ some k_ ≠ (.slice A0 Al.length A1 : Value).ownBlock ∧ some k_ ≠ (.slice Aw Ah.length Ax : Value).ownBlock ∧ k_ ≠ Ac ∧ k_ ≠ Ae ∧ k_ ≠ Ag ∧ k_ ≠ Ak) k_ from fun k_ hk=>⟨(Nat.le_trans (below_size qB7) hk),Kd.fresh' (Kd.R_lt (qR Av.out)) k_ hk,Kd.fresh' (Kd.N_lt (qN Af.out)) k_ hk,Kd.fresh' (Kd.N_lt (qN Ad.out)) k_ hk,Kd.freshB (g:=Ac) (o:=.cells #[.int .i64 a0_0,.int .i64 a0_1,.int .i64 a0_2,.slice A0_3 l0_3.length c0_3,.slice A0_4 l0_4.length c0_4,.int .i64 a0_5] 25 (0,0)) (qD Aa.out) k_ hk,Kd.freshB (g:=Ae) (o:=.cells #[.int .i64 a1_0,.int .i64 a1_1,.int .i64 a1_2,.slice A1_3 l1_3.length c1_3,.slice A1_4 l1_4.length c1_4,.int .i64 a1_5] 25 (0,0)) (qD Ab.out) k_ hk,Kd.freshB (g:=Ag) (o:=.cells #[.int .i64 As,.int .i64 Ar,.int .i64 Ap,.slice none 0 0,.slice none 0 0,.int .i64 Ao] 25 (0,0)) (qD Ai.out) k_ hk,Kd.freshB (g:=Ak) (o:=.cells #[.int .i64 (wrap64 (a0_0 * a1_0)),.int .i64 a0_1,.int .i64 a1_2,.slice A0 Al.length A1,.slice Aw Ah.length Ax,.int .i64 (wrap64 ((wrap64 (a0_5 * a1_0)) + a1_5))] 25 (0,0)) (qD Aj.out) k_ hk⟩) _ (Nat.le_refl _)) (Below.refl _ _) (Nat.le_refl _) (by simp) ?_;(case hd9=>rfl);(case hg9=>rfl);(case hr9=>first|(go_simp;done)|(go_simp;rfl));(case hp9=>first|exact (Reps.one (show Kd.FK (Kd.slice 26 (Kd.slice 3 (Kd.int .i64))) _ _ Au [.slice Ao88b Au.length co88b] from (Kd.FK_slice_mk (Kd.N_reads' (Kd.N_mono (ok':=(fun k_=>(w.heap.size ≤ k_) ∧ some k_ ≠ (.slice Cn Az.length Co : Value).ownBlock ∧ some k_ ≠ (.slice A0 Al.length A1 : Value).ownBlock ∧ some k_ ≠ (.slice Aw Ah.length Ax : Value).ownBlock ∧ k_ ≠ Ac ∧ k_ ≠ Ae ∧ k_ ≠ Ag ∧ k_ ≠ Ak)) (Aq.out) (fun k_ hk=>⟨hk.1,⟨hk.2.1,⟨hk.2.2.1,⟨hk.2.2.2.1,⟨hk.2.2.2.2.1,⟨hk.2.2.2.2.2.1,⟨hk.2.2.2.2.2.2.1,hk.2.2.2.2.2.2.2⟩⟩⟩⟩⟩⟩⟩))).2.1 (Kd.N_F (Kd.N_mono (ok':=(fun k_=>(w.heap.size ≤ k_) ∧ some k_ ≠ (.slice Cn Az.length Co : Value).ownBlock ∧ some k_ ≠ (.slice A0 Al.length A1 : Value).ownBlock ∧ some k_ ≠ (.slice Aw Ah.length Ax : Value).ownBlock ∧ k_ ≠ Ac ∧ k_ ≠ Ae ∧ k_ ≠ Ag ∧ k_ ≠ Ak)) (Aq.out) (fun k_ hk=>⟨hk.1,⟨hk.2.1,⟨hk.2.2.1,⟨hk.2.2.2.1,⟨hk.2.2.2.2.1,⟨hk.2.2.2.2.2.1,⟨hk.2.2.2.2.2.2.1,hk.2.2.2.2.2.2.2⟩⟩⟩⟩⟩⟩⟩))))) (Reps.none _ _))|exact (Reps.one (show Kd.FK (Kd.slice 26 (Kd.slice 3 (Kd.int .i64))) _ _ Au [.slice Ao88b Au.length co88b] from (Kd.FK_slice_mk (Kd.N_reads' (Kd.N_mono (ok':=(fun k_=>(w.heap.size ≤ k_) ∧ some k_ ≠ (.slice Cn Az.length Co : Value).ownBlock ∧ some k_ ≠ (.slice A0 Al.length A1 : Value).ownBlock ∧ some k_ ≠ (.slice Aw Ah.length Ax : Value).ownBlock ∧ k_ ≠ Ac ∧ k_ ≠ Ae ∧ k_ ≠ Ag ∧ k_ ≠ Ak)) (Aq.out) (fun k_ hk=>⟨hk.1,⟨hk.2.1,⟨hk.2.2.1,⟨hk.2.2.2.1,⟨hk.2.2.2.2.1,⟨hk.2.2.2.2.2.1,⟨hk.2.2.2.2.2.2.1,hk.2.2.2.2.2.2.2⟩⟩⟩⟩⟩⟩⟩))).2.1 (Kd.N_F (Kd.N_mono (ok':=(fun k_=>(w.heap.size ≤ k_) ∧ some k_ ≠ (.slice Cn Az.length Co : Value).ownBlock ∧ some k_ ≠ (.slice A0 Al.length A1 : Value).ownBlock ∧ some k_ ≠ (.slice Aw Ah.length Ax : Value).ownBlock ∧ k_ ≠ Ac ∧ k_ ≠ Ae ∧ k_ ≠ Ag ∧ k_ ≠ Ak)) (Kd.N_drewN Aq.out _) (fun k_ hk=>⟨hk.1,⟨hk.2.1,⟨hk.2.2.1,⟨hk.2.2.2.1,⟨hk.2.2.2.2.1,⟨hk.2.2.2.2.2.1,⟨hk.2.2.2.2.2.2.1,hk.2.2.2.2.2.2.2⟩⟩⟩⟩⟩⟩⟩))))) (Reps.none _ _)))
                  intro v164 w89 ho90 hb hg_ hnew_
                  clear hg_ hnew_
                  (first|rw [← Ny163.out] at ho90|(simp only [Int.reduceToNat] at ho90;rw [← Ny163.out] at ho90))
                  have n0_:=Aside0.mk (Kd.R_below (qR Av.out) hb)
                  have n1_:=Aside0.mk (Kd.N_elder' (qN Af.out) (Kd.N_base ho90) hb)
                  have n2_:=Aside0.mk (Kd.N_elder' (qN Ad.out) (Kd.N_base ho90) hb)
                  have n3_:=Aside0.mk (Kd.N_lower ho90 (below_size qB7))
                  have n4_:=Aside0.mk (blk_below (qD Aa.out) hb)
                  have n5_:=Aside0.mk (blk_below (qD Ab.out) hb)
                  have n6_:=Aside0.mk (blk_below (qD Ai.out) hb)
                  have n7_:=Aside0.mk (blk_below (qD Aj.out) hb)
                  have n8_:=Aside0.mk (below_step qB7 hb)
                  clear Av
                  clear Af
                  clear Ad
                  clear Aa
                  clear Ab
                  clear Ai
                  clear Aj
                  clear HB
                  clear Aq
                  have Av:=n0_
                  have Af:=n1_
                  have Ad:=n2_
                  have Bi:=n3_
                  have Aa:=n4_
                  have Ab:=n5_
                  have Ai:=n6_
                  have Aj:=n7_
                  have HB:=n8_
                  clear n0_ n1_ n2_ n3_ n4_ n5_ n6_ n7_ n8_
                  clear hb ho90
                  obtain ⟨Ao91,co91,eo91⟩:=Kd.R_slice Av.out
                  (first|subst eo91|(injection eo91 with f1_ f2_ f3_;have f4_:=f1_.symm;have f5_:=f3_.symm;clear f1_ f2_ f3_;subst f4_;subst f5_))
                  refine hK.out _ _ ⟨(blk_cell Aj.out 0).trans rfl,(blk_cell Aj.out 1).trans rfl,(blk_cell Aj.out 2).trans rfl,(blk_cell Aj.out 3).trans rfl,(blk_cell Aj.out 4).trans rfl,(blk_cell Aj.out 5).trans rfl⟩ (fun hHeld=>?_)
                  clear hK K
                  refine norm_ (a':=?_) ?_ ?_
                  rotate_left
                  ·show Act.put _ (some 121) _ = _
                   simp only [Act.put,List.setIfInBounds_toArray,List.set_cons_zero,List.set_cons_succ,i64_w,i32_w]
                   rfl
                  refine one_ (i:=3) (N:=some 116) #[true,true,true,true,false,true,true,true,true,false,false,false,false,false] rfl rfl (one_of HT_.out (by kernel_rfl)) (by decide) (fun K hK=>?_)
                  refine Kd.N_lit_step (Kd.slice 3 (Kd.int .i64)) _ 26 ?hg10 (N':=116) ?hd10 (xs:=([Az] : List (List Int))) (inner:=[.slice Ao91 Az.length co91]) (ok:=(fun k_=>(w.heap.size ≤ k_) ∧ some k_ ≠ (.slice A0 Al.length A1 : Value).ownBlock ∧ some k_ ≠ (.slice Aw Ah.length Ax : Value).ownBlock ∧ some k_ ≠ (v164 : Value).ownBlock ∧ k_ ≠ Ac ∧ k_ ≠ Ae ∧ k_ ≠ Ag ∧ k_ ≠ Ak)) (okp:=(fun k_=>(w.heap.size ≤ k_) ∧ some k_ ≠ (.slice A0 Al.length A1 : Value).ownBlock ∧ some k_ ≠ (.slice Aw Ah.length Ax : Value).ownBlock ∧ some k_ ≠ (v164 : Value).ownBlock ∧ k_ ≠ Ac ∧ k_ ≠ Ae ∧ k_ ≠ Ag ∧ k_ ≠ Ak)) ?hr10 ?hp10 (fun _ hk=>hk) ((show ∀ k_,w89.heap.size ≤ k_ → (fun k_=>(w.heap.size ≤ k_) ∧ some k_ ≠ (.slice A0 Al.length A1 : Value).ownBlock ∧ some k_ ≠ (.slice Aw Ah.length Ax : Value).ownBlock ∧ some k_ ≠ (v164 : Value).ownBlock ∧ k_ ≠ Ac ∧ k_ ≠ Ae ∧ k_ ≠ Ag ∧ k_ ≠ Ak) k_ from fun k_ hk=>⟨(Nat.le_trans (below_size qB7) hk),Kd.fresh' (Kd.N_lt (qN Af.out)) k_ hk,Kd.fresh' (Kd.N_lt (qN Ad.out)) k_ hk,Kd.fresh' (Kd.N_lt (qN Bi.out)) k_ hk,Kd.freshB (g:=Ac) (o:=.cells #[.int .i64 a0_0,.int .i64 a0_1,.int .i64 a0_2,.slice A0_3 l0_3.length c0_3,.slice A0_4 l0_4.length c0_4,.int .i64 a0_5] 25 (0,0)) (qD Aa.out) k_ hk,Kd.freshB (g:=Ae) (o:=.cells #[.int .i64 a1_0,.int .i64 a1_1,.int .i64 a1_2,.slice A1_3 l1_3.length c1_3,.slice A1_4 l1_4.length c1_4,.int .i64 a1_5] 25 (0,0)) (qD Ab.out) k_ hk,Kd.freshB (g:=Ag) (o:=.cells #[.int .i64 As,.int .i64 Ar,.int .i64 Ap,.slice none 0 0,.slice none 0 0,.int .i64 Ao] 25 (0,0)) (qD Ai.out) k_ hk,Kd.freshB (g:=Ak) (o:=.cells #[.int .i64 (wrap64 (a0_0 * a1_0)),.int .i64 a0_1,.int .i64 a1_2,.slice A0 Al.length A1,.slice Aw Ah.length Ax,.int .i64 (wrap64 ((wrap64 (a0_5 * a1_0)) + a1_5))] 25 (0,0)) (qD Aj.out) k_ hk⟩) _ (Nat.le_refl _)) (Below.refl _ _) (Nat.le_refl _) (by simp) ?_;(case hd10=>rfl);(case hg10=>rfl);(case hr10=>first|(go_simp;done)|(go_simp;rfl));(case hp10=>first|exact (Reps.one (show Kd.FK (Kd.slice 3 (Kd.int .i64)) _ _ Az [.slice Ao91 Az.length co91] from (Kd.FK_slice_mk (Kd.R_reads' (Kd.R_mono (ok':=(fun k_=>(w.heap.size ≤ k_) ∧ some k_ ≠ (.slice A0 Al.length A1 : Value).ownBlock ∧ some k_ ≠ (.slice Aw Ah.length Ax : Value).ownBlock ∧ some k_ ≠ (v164 : Value).ownBlock ∧ k_ ≠ Ac ∧ k_ ≠ Ae ∧ k_ ≠ Ag ∧ k_ ≠ Ak)) (Kd.R_types (Kd.R_types (Kd.R_types (Kd.R_types (Kd.R_apart' (Kd.R_apart' (Kd.R_apart' (Av.out) (Kd.N_typed Af.out) (by decide)) (Kd.N_typed Ad.out) (by decide)) (Kd.N_typed Bi.out) (by decide)) Aa.out (by decide)) Ab.out (by decide)) Ai.out (by decide)) Aj.out (by decide)) (fun k_ hk=>⟨hk.1.1.1.1.1.1.1,⟨hk.1.1.1.1.1.1.2,⟨hk.1.1.1.1.1.2,⟨hk.1.1.1.1.2,⟨hk.1.1.1.2,⟨hk.1.1.2,⟨hk.1.2,hk.2⟩⟩⟩⟩⟩⟩⟩))).2.1 (Kd.R_F (Kd.R_mono (ok':=(fun k_=>(w.heap.size ≤ k_) ∧ some k_ ≠ (.slice A0 Al.length A1 : Value).ownBlock ∧ some k_ ≠ (.slice Aw Ah.length Ax : Value).ownBlock ∧ some k_ ≠ (v164 : Value).ownBlock ∧ k_ ≠ Ac ∧ k_ ≠ Ae ∧ k_ ≠ Ag ∧ k_ ≠ Ak)) (Kd.R_types (Kd.R_types (Kd.R_types (Kd.R_types (Kd.R_apart' (Kd.R_apart' (Kd.R_apart' (Av.out) (Kd.N_typed Af.out) (by decide)) (Kd.N_typed Ad.out) (by decide)) (Kd.N_typed Bi.out) (by decide)) Aa.out (by decide)) Ab.out (by decide)) Ai.out (by decide)) Aj.out (by decide)) (fun k_ hk=>⟨hk.1.1.1.1.1.1.1,⟨hk.1.1.1.1.1.1.2,⟨hk.1.1.1.1.1.2,⟨hk.1.1.1.1.2,⟨hk.1.1.1.2,⟨hk.1.1.2,⟨hk.1.2,hk.2⟩⟩⟩⟩⟩⟩⟩))))) (Reps.none _ _))|exact (Reps.one (show Kd.FK (Kd.slice 3 (Kd.int .i64)) _ _ Az [.slice Ao91 Az.length co91] from (Kd.FK_slice_mk (Kd.R_reads' (Kd.R_mono (ok':=(fun k_=>(w.heap.size ≤ k_) ∧ some k_ ≠ (.slice A0 Al.length A1 : Value).ownBlock ∧ some k_ ≠ (.slice Aw Ah.length Ax : Value).ownBlock ∧ some k_ ≠ (v164 : Value).ownBlock ∧ k_ ≠ Ac ∧ k_ ≠ Ae ∧ k_ ≠ Ag ∧ k_ ≠ Ak)) (Kd.R_types (Kd.R_types (Kd.R_types (Kd.R_types (Kd.R_apart' (Kd.R_apart' (Kd.R_apart' (Av.out) (Kd.N_typed Af.out) (by decide)) (Kd.N_typed Ad.out) (by decide)) (Kd.N_typed Bi.out) (by decide)) Aa.out (by decide)) Ab.out (by decide)) Ai.out (by decide)) Aj.out (by decide)) (fun k_ hk=>⟨hk.1.1.1.1.1.1.1,⟨hk.1.1.1.1.1.1.2,⟨hk.1.1.1.1.1.2,⟨hk.1.1.1.1.2,⟨hk.1.1.1.2,⟨hk.1.1.2,⟨hk.1.2,hk.2⟩⟩⟩⟩⟩⟩⟩))).2.1 (Kd.R_F (Kd.R_mono (ok':=(fun k_=>(w.heap.size ≤ k_) ∧ some k_ ≠ (.slice A0 Al.length A1 : Value).ownBlock ∧ some k_ ≠ (.slice Aw Ah.length Ax : Value).ownBlock ∧ some k_ ≠ (v164 : Value).ownBlock ∧ k_ ≠ Ac ∧ k_ ≠ Ae ∧ k_ ≠ Ag ∧ k_ ≠ Ak)) (Kd.R_types (Kd.R_types (Kd.R_types (Kd.R_types (Kd.R_apart' (Kd.R_apart' (Kd.R_apart' (Av.out) (Kd.N_typed Af.out) (by decide)) (Kd.N_typed Ad.out) (by decide)) (Kd.N_typed Bi.out) (by decide)) Aa.out (by decide)) Ab.out (by decide)) Ai.out (by decide)) Aj.out (by decide)) (fun k_ hk=>⟨hk.1.1.1.1.1.1.1,⟨hk.1.1.1.1.1.1.2,⟨hk.1.1.1.1.1.2,⟨hk.1.1.1.1.2,⟨hk.1.1.1.2,⟨hk.1.1.2,⟨hk.1.2,hk.2⟩⟩⟩⟩⟩⟩⟩))))) (Reps.none _ _)))
                  intro v158 w92 ho93 hb hg_ hnew_
                  clear hg_ hnew_
                  (first|rw [← Ny157.out] at ho93|(simp only [Int.reduceToNat] at ho93;rw [← Ny157.out] at ho93))
                  have n0_:=Aside0.mk (Kd.N_elder' (qN Af.out) (Kd.N_base ho93) hb)
                  have n1_:=Aside0.mk (Kd.N_elder' (qN Ad.out) (Kd.N_base ho93) hb)
                  have n2_:=Aside0.mk (Kd.N_elder' (qN Bi.out) (Kd.N_base ho93) hb)
                  have n3_:=Aside0.mk (Kd.N_lower ho93 (below_size qB7))
                  have n4_:=Aside0.mk (blk_below (qD Aa.out) hb)
                  have n5_:=Aside0.mk (blk_below (qD Ab.out) hb)
                  have n6_:=Aside0.mk (blk_below (qD Ai.out) hb)
                  have n7_:=Aside0.mk (blk_below (qD Aj.out) hb)
                  have n8_:=Aside0.mk (below_step qB7 hb)
                  clear Af
                  clear Ad
                  clear Bi
                  clear Aa
                  clear Ab
                  clear Ai
                  clear Aj
                  clear HB
                  clear Av
                  have Af:=n0_
                  have Ad:=n1_
                  have Bi:=n2_
                  have A4:=n3_
                  have Aa:=n4_
                  have Ab:=n5_
                  have Ai:=n6_
                  have Aj:=n7_
                  have HB:=n8_
                  clear n0_ n1_ n2_ n3_ n4_ n5_ n6_ n7_ n8_
                  clear hb ho93
                  obtain ⟨Ao95,co95,eo95⟩:=Kd.N_slice A4.out
                  (first|subst eo95|(injection eo95 with f1_ f2_ f3_;have f4_:=f1_.symm;have f5_:=f3_.symm;clear f1_ f2_ f3_;subst f4_;subst f5_))
                  refine hK.out _ _ ⟨(blk_cell Aj.out 0).trans rfl,(blk_cell Aj.out 1).trans rfl,(blk_cell Aj.out 2).trans rfl,(blk_cell Aj.out 3).trans rfl,(blk_cell Aj.out 4).trans rfl,(blk_cell Aj.out 5).trans rfl⟩ (fun hHeld=>?_)
                  clear hK K
                  refine norm_ (a':=?_) ?_ ?_
                  rotate_left
                  ·show Act.put _ (some 116) _ = _
                   simp only [Act.put,List.setIfInBounds_toArray,List.set_cons_zero,List.set_cons_succ,i64_w,i32_w]
                   rfl
                  refine one_ (i:=4) (N:=some 117) #[true,true,true,true,true,true,true,true,true,false,false,false,false,false] rfl rfl (one_of HT_.out (by kernel_rfl)) (by decide) (fun K hK=>?_)
                  refine Kd.N_append_rows_step (Kd.slice 3 (Kd.int .i64)) (w0:=w) w.heap.size (by rfl) (.tmp 114) (.tmp 116) 22 26 (.slice none 0 0) 24 rfl Try.underlying22 info26 rfl (by decide) (by omega) (.slice A0 Al.length A1) Al Bo _ _ _ (fun k_=>(w.heap.size ≤ k_) ∧ some k_ ≠ (.slice Aw Ah.length Ax : Value).ownBlock ∧ some k_ ≠ (v164 : Value).ownBlock ∧ k_ ≠ Ac ∧ k_ ≠ Ae ∧ k_ ≠ Ag ∧ k_ ≠ Ak) (fun k_=>((fun k_=>(w.heap.size ≤ k_) ∧ some k_ ≠ (.slice Aw Ah.length Ax : Value).ownBlock ∧ some k_ ≠ (v164 : Value).ownBlock ∧ k_ ≠ Ac ∧ k_ ≠ Ae ∧ k_ ≠ Ag ∧ k_ ≠ Ak)) k_ ∧ some k_ ≠ (.slice A0 Al.length A1 : Value).ownBlock) rfl rfl ?aO ?aR (fun _ hk=>hk) ?aF ?aB ?aS ?aL ?_
                  (case aR=>exact (by skip;exact Kd.N_F (Kd.N_mono (ok':=(fun k_=>((fun k_=>(w.heap.size ≤ k_) ∧ some k_ ≠ (.slice Aw Ah.length Ax : Value).ownBlock ∧ some k_ ≠ (v164 : Value).ownBlock ∧ k_ ≠ Ac ∧ k_ ≠ Ae ∧ k_ ≠ Ag ∧ k_ ≠ Ak)) k_ ∧ some k_ ≠ (.slice A0 Al.length A1 : Value).ownBlock)) (A4.out) (fun k_ hk=>⟨⟨hk.1,⟨hk.2.2.1,⟨hk.2.2.2.1,⟨hk.2.2.2.2.1,⟨hk.2.2.2.2.2.1,⟨hk.2.2.2.2.2.2.1,hk.2.2.2.2.2.2.2⟩⟩⟩⟩⟩⟩,hk.2.1⟩))))
                  (case aB=>exact qB7)
                  (case aF=>exact (fun k_ hk=>⟨(Nat.le_trans (below_size qB7) hk),Kd.fresh' (Kd.N_lt (qN Ad.out)) k_ hk,Kd.fresh' (Kd.N_lt (qN Bi.out)) k_ hk,Kd.freshB (g:=Ac) (o:=.cells #[.int .i64 a0_0,.int .i64 a0_1,.int .i64 a0_2,.slice A0_3 l0_3.length c0_3,.slice A0_4 l0_4.length c0_4,.int .i64 a0_5] 25 (0,0)) (qD Aa.out) k_ hk,Kd.freshB (g:=Ae) (o:=.cells #[.int .i64 a1_0,.int .i64 a1_1,.int .i64 a1_2,.slice A1_3 l1_3.length c1_3,.slice A1_4 l1_4.length c1_4,.int .i64 a1_5] 25 (0,0)) (qD Ab.out) k_ hk,Kd.freshB (g:=Ag) (o:=.cells #[.int .i64 As,.int .i64 Ar,.int .i64 Ap,.slice none 0 0,.slice none 0 0,.int .i64 Ao] 25 (0,0)) (qD Ai.out) k_ hk,Kd.freshB (g:=Ak) (o:=.cells #[.int .i64 (wrap64 (a0_0 * a1_0)),.int .i64 a0_1,.int .i64 a1_2,.slice A0 Al.length A1,.slice Aw Ah.length Ax,.int .i64 (wrap64 ((wrap64 (a0_5 * a1_0)) + a1_5))] 25 (0,0)) (qD Aj.out) k_ hk⟩))
                  (case aO=>exact (by (with_reducible repeat (first|apply Kd.N_alloc|apply Kd.N_drewN|apply Kd.N_drew));exact Kd.N_mono Af.out (fun _ hk=>⟨hk.1.1.1,⟨hk.1.1.2.2.2.1,⟨hk.1.2,⟨hk.1.1.2.2.2.2.1,⟨hk.1.1.2.2.2.2.2.1,⟨hk.1.1.2.2.2.2.2.2.1,hk.1.1.2.2.2.2.2.2.2⟩⟩⟩⟩⟩⟩)))
                  (case aS=>exact (below_size qB7))
                  (case aL=>have:=LMc83.out;omega)
                  intro v161 w94 ho hb hg hat
                  rw [← Ny160.out] at ho
                  have n0_:=Aside0.mk (Kd.N_afterv (ok:=(fun k_=>(w.heap.size ≤ k_) ∧ some k_ ≠ (v164 : Value).ownBlock ∧ some k_ ≠ (.slice Ao95 Bo.length co95 : Value).ownBlock ∧ k_ ≠ Ac ∧ k_ ≠ Ae ∧ k_ ≠ Ag ∧ k_ ≠ Ak)) (by (with_reducible repeat (first|apply Kd.N_alloc|apply Kd.N_drewN|apply Kd.N_drew));exact Kd.N_mono Ad.out (fun _ hk=>⟨⟨hk.1.1.1,⟨hk.1.2,⟨hk.2,⟨hk.1.1.2.2.2.2.1,⟨hk.1.1.2.2.2.2.2.1,⟨hk.1.1.2.2.2.2.2.2.1,hk.1.1.2.2.2.2.2.2.2⟩⟩⟩⟩⟩⟩,hk.1.1.2.2.2.1⟩)) hg hat)
                  have n1_:=Aside0.mk (blk_grown (g:=Ac) (o:=.cells #[.int .i64 a0_0,.int .i64 a0_1,.int .i64 a0_2,.slice A0_3 l0_3.length c0_3,.slice A0_4 l0_4.length c0_4,.int .i64 a0_5] 25 (0,0)) (qD Aa.out) hg (Kd.N_ne Af.out Aa.out (by decide)))
                  have n2_:=Aside0.mk (blk_grown (g:=Ae) (o:=.cells #[.int .i64 a1_0,.int .i64 a1_1,.int .i64 a1_2,.slice A1_3 l1_3.length c1_3,.slice A1_4 l1_4.length c1_4,.int .i64 a1_5] 25 (0,0)) (qD Ab.out) hg (Kd.N_ne Af.out Ab.out (by decide)))
                  have n3_:=Aside0.mk (blk_grown (g:=Ag) (o:=.cells #[.int .i64 As,.int .i64 Ar,.int .i64 Ap,.slice none 0 0,.slice none 0 0,.int .i64 Ao] 25 (0,0)) (qD Ai.out) hg (Kd.N_ne Af.out Ai.out (by decide)))
                  have n4_:=Aside0.mk (blk_grown (g:=Ak) (o:=.cells #[.int .i64 (wrap64 (a0_0 * a1_0)),.int .i64 a0_1,.int .i64 a1_2,.slice A0 Al.length A1,.slice Aw Ah.length Ax,.int .i64 (wrap64 ((wrap64 (a0_5 * a1_0)) + a1_5))] 25 (0,0)) (qD Aj.out) hg (Kd.N_ne Af.out Aj.out (by decide)))
                  have n5_:=Aside0.mk (Kd.N_afterv (ok:=(fun k_=>(w.heap.size ≤ k_) ∧ some k_ ≠ (.slice Aw Ah.length Ax : Value).ownBlock ∧ some k_ ≠ (.slice Ao95 Bo.length co95 : Value).ownBlock ∧ k_ ≠ Ac ∧ k_ ≠ Ae ∧ k_ ≠ Ag ∧ k_ ≠ Ak)) (by (with_reducible repeat (first|apply Kd.N_alloc|apply Kd.N_drewN|apply Kd.N_drew));exact Kd.N_mono Bi.out (fun _ hk=>⟨⟨hk.1.1,⟨hk.1.2.2.2.1,⟨hk.2,⟨hk.1.2.2.2.2.1,⟨hk.1.2.2.2.2.2.1,⟨hk.1.2.2.2.2.2.2.1,hk.1.2.2.2.2.2.2.2⟩⟩⟩⟩⟩⟩,hk.1.2.2.1⟩)) hg hat)
                  have n6_:=Aside0.mk (Kd.N_afterv (ok:=(fun k_=>(w.heap.size ≤ k_) ∧ some k_ ≠ (.slice Aw Ah.length Ax : Value).ownBlock ∧ some k_ ≠ (v164 : Value).ownBlock ∧ k_ ≠ Ac ∧ k_ ≠ Ae ∧ k_ ≠ Ag ∧ k_ ≠ Ak)) (by (with_reducible repeat (first|apply Kd.N_alloc|apply Kd.N_drewN|apply Kd.N_drew));exact Kd.N_mono A4.out (fun _ hk=>⟨⟨hk.1,⟨hk.2.2.1,⟨hk.2.2.2.1,⟨hk.2.2.2.2.1,⟨hk.2.2.2.2.2.1,⟨hk.2.2.2.2.2.2.1,hk.2.2.2.2.2.2.2⟩⟩⟩⟩⟩⟩,hk.2.1⟩)) hg hat)
                  have n7_:=Aside0.mk (hb)
                  have n8_:=Aside0.mk (ho)
                  clear Ad
                  clear Aa
                  clear Ab
                  clear Ai
                  clear Aj
                  clear Bi
                  clear A4
                  clear HB
                  clear Af
                  have Ad:=n0_
                  have Aa:=n1_
                  have Ab:=n2_
                  have Ai:=n3_
                  have Aj:=n4_
                  have Bi:=n5_
                  have A4:=n6_
                  have HB:=n7_
                  have Bv:=n8_
                  clear n0_ n1_ n2_ n3_ n4_ n5_ n6_ n7_ n8_
                  clear ho hb hg hat
                  refine hK.out _ _ ⟨(blk_cell Aj.out 0).trans rfl,(blk_cell Aj.out 1).trans rfl,(blk_cell Aj.out 2).trans rfl,(blk_cell Aj.out 3).trans rfl,(blk_cell Aj.out 4).trans rfl,(blk_cell Aj.out 5).trans rfl⟩ (fun hHeld=>?_)
                  clear hK K
                  refine norm_ (a':=?_) ?_ ?_
                  rotate_left
                  ·show Act.put _ (some 117) _ = _
                   simp only [Act.put,List.setIfInBounds_toArray,List.set_cons_zero,List.set_cons_succ,i64_w,i32_w]
                   rfl
                  refine pure_ (i:=10) (N:=some 123) (v:=?_) (a':=?_) #[true,true,true,true,true,true,true,true,true,false,true,false,false,false] rfl rfl (any_of HT_.out (by kernel_rfl)) (fun _ _ _ h=>h) (Or.inl ⟨by rfl,?_⟩) ?_ ?_
                  rotate_left
                  ·intro w'
                   go_simp
                   with_reducible rfl
                  rotate_left
                  ·simp only [Act.put,List.setIfInBounds_toArray,List.set_cons_zero,List.set_cons_succ,i64_w,i32_w]
                   rfl
                  exact norm_ (by simp only [putAll,Act.put,List.setIfInBounds_toArray,List.set_cons_zero,List.set_cons_succ]) (hCont (.slice Ao95 Bo.length co95,v161,v164) _ ⟨hHeld,(by (with_reducible repeat (first|apply Kd.N_alloc|apply Kd.N_drewN|apply Kd.N_drew));exact Kd.N_mono A4.out (fun _ hk=>⟨hk.1.1,⟨hk.2,⟨hk.1.2.2.1,⟨hk.1.2.1,⟨hk.1.2.2.2.1,⟨hk.1.2.2.2.2.1,⟨hk.1.2.2.2.2.2.1,hk.1.2.2.2.2.2.2⟩⟩⟩⟩⟩⟩⟩)),(by (with_reducible repeat (first|apply Kd.N_alloc|apply Kd.N_drewN|apply Kd.N_drew));exact Kd.N_mono Bv.out (fun _ hk=>⟨hk.1,⟨hk.2.2.1,⟨hk.2.1,⟨hk.2.2.2.1,⟨hk.2.2.2.2.1,⟨hk.2.2.2.2.2.1,hk.2.2.2.2.2.2⟩⟩⟩⟩⟩⟩)),(by (with_reducible repeat (first|apply Kd.N_alloc|apply Kd.N_drewN|apply Kd.N_drew));exact Kd.N_mono Bi.out (fun _ hk=>⟨hk.1.1,⟨hk.1.2.2.1,⟨hk.2,⟨hk.1.2.1,⟨hk.1.2.2.2.1,⟨hk.1.2.2.2.2.1,⟨hk.1.2.2.2.2.2.1,hk.1.2.2.2.2.2.2⟩⟩⟩⟩⟩⟩⟩)),(by (with_reducible repeat (first|apply Kd.N_alloc|apply Kd.N_drewN|apply Kd.N_drew));exact Kd.N_mono Ad.out (fun _ hk=>⟨hk.1.1,⟨hk.1.2.2.1,⟨hk.2,⟨hk.1.2.1,⟨hk.1.2.2.2.1,⟨hk.1.2.2.2.2.1,⟨hk.1.2.2.2.2.2.1,hk.1.2.2.2.2.2.2⟩⟩⟩⟩⟩⟩⟩)),(qD Aa.out),(qD Ab.out),(qD Ai.out),(qD Aj.out),qB7⟩)
                rintro ⟨v158,v161,v164⟩ w96 ⟨hS_,h0_,h1_,h2_,h3_,h4_,h5_,h6_,h7_,h8_⟩
                have n0_ : Aside0 (Kd.N (Kd.slice 3 (Kd.int .i64)) 26 w96 w.heap.size (fun k_=>(w.heap.size ≤ k_) ∧ some k_ ≠ (v161 : Value).ownBlock ∧ some k_ ≠ (v164 : Value).ownBlock ∧ some k_ ≠ (.slice Aw Ah.length Ax : Value).ownBlock ∧ k_ ≠ Ac ∧ k_ ≠ Ae ∧ k_ ≠ Ag ∧ k_ ≠ Ak) v158 Bo):=⟨h0_⟩
                have n1_ : Aside0 (Kd.N (Kd.slice 3 (Kd.int .i64)) 26 w96 w.heap.size (fun k_=>(w.heap.size ≤ k_) ∧ some k_ ≠ (v164 : Value).ownBlock ∧ some k_ ≠ (.slice Aw Ah.length Ax : Value).ownBlock ∧ k_ ≠ Ac ∧ k_ ≠ Ae ∧ k_ ≠ Ag ∧ k_ ≠ Ak) v161 Cm):=⟨h1_⟩
                have n2_ : Aside0 (Kd.N (Kd.slice 26 (Kd.slice 3 (Kd.int .i64))) 22 w96 w.heap.size (fun k_=>(w.heap.size ≤ k_) ∧ some k_ ≠ (v158 : Value).ownBlock ∧ some k_ ≠ (v161 : Value).ownBlock ∧ some k_ ≠ (.slice Aw Ah.length Ax : Value).ownBlock ∧ k_ ≠ Ac ∧ k_ ≠ Ae ∧ k_ ≠ Ag ∧ k_ ≠ Ak) v164 Cd):=⟨h2_⟩
                have n3_ : Aside0 (Kd.N (Kd.slice 26 (Kd.slice 3 (Kd.int .i64))) 22 w96 w.heap.size (fun k_=>(w.heap.size ≤ k_) ∧ some k_ ≠ (v158 : Value).ownBlock ∧ some k_ ≠ (v161 : Value).ownBlock ∧ some k_ ≠ (v164 : Value).ownBlock ∧ k_ ≠ Ac ∧ k_ ≠ Ae ∧ k_ ≠ Ag ∧ k_ ≠ Ak) (.slice Aw Ah.length Ax) Ah):=⟨h3_⟩
                have n4_ : Aside0 (w96.heap[Ac]? = some (.cells #[.int .i64 a0_0,.int .i64 a0_1,.int .i64 a0_2,.slice A0_3 l0_3.length c0_3,.slice A0_4 l0_4.length c0_4,.int .i64 a0_5] 25 (0,0))):=⟨h4_⟩
                have n5_ : Aside0 (w96.heap[Ae]? = some (.cells #[.int .i64 a1_0,.int .i64 a1_1,.int .i64 a1_2,.slice A1_3 l1_3.length c1_3,.slice A1_4 l1_4.length c1_4,.int .i64 a1_5] 25 (0,0))):=⟨h5_⟩
                have n6_ : Aside0 (w96.heap[Ag]? = some (.cells #[.int .i64 As,.int .i64 Ar,.int .i64 Ap,.slice none 0 0,.slice none 0 0,.int .i64 Ao] 25 (0,0))):=⟨h6_⟩
                have n7_ : Aside0 (w96.heap[Ak]? = some (.cells #[.int .i64 (wrap64 (a0_0 * a1_0)),.int .i64 a0_1,.int .i64 a1_2,.slice A0 Al.length A1,.slice Aw Ah.length Ax,.int .i64 (wrap64 ((wrap64 (a0_5 * a1_0)) + a1_5))] 25 (0,0))):=⟨h7_⟩
                have n8_ : Aside0 (Below w.heap.size w w96):=⟨h8_⟩
                clear Av
                clear Aq
                clear Af
                clear Ad
                clear Aa
                clear Ab
                clear Ai
                clear Aj
                clear HB
                clear h0_ h1_ h2_ h3_ h4_ h5_ h6_ h7_ h8_
                have A4:=n0_
                have Bv:=n1_
                have Bi:=n2_
                have Ad:=n3_
                have Aa:=n4_
                have Ab:=n5_
                have Ai:=n6_
                have Aj:=n7_
                have HB:=n8_
                clear n0_ n1_ n2_ n3_ n4_ n5_ n6_ n7_ n8_
                have hHeld : w96.cell? ⟨Ak,0,none⟩ = some (.int .i64 (wrap64 (a0_0 * a1_0))) ∧ w96.cell? ⟨Ak,1,none⟩ = some (.int .i64 a0_1) ∧ w96.cell? ⟨Ak,2,none⟩ = some (.int .i64 a1_2) ∧ w96.cell? ⟨Ak,3,none⟩ = some (.slice A0 Al.length A1) ∧ w96.cell? ⟨Ak,4,none⟩ = some (.slice Aw Ah.length Ax) ∧ w96.cell? ⟨Ak,5,none⟩ = some (.int .i64 (wrap64 ((wrap64 (a0_5 * a1_0)) + a1_5))):=hS_
                obtain ⟨Ao98,co98,eo98⟩:=Kd.N_slice Bi.out
                (first|subst eo98|(injection eo98 with f1_ f2_ f3_;have f4_:=f1_.symm;have f5_:=f3_.symm;clear f1_ f2_ f3_;subst f4_;subst f5_))
                refine norm_ (a':=?_) ?_ ?_
                rotate_left
                ·simp only [putAll,Act.put,List.setIfInBounds_toArray,List.set_cons_zero,List.set_cons_succ]
                 rfl
                refine one_ (i:=9) (N:=some 122) #[true,true,true,true,true,true,true,true,true,true,true,false,false,false] rfl rfl (one_of HT_.out (by kernel_rfl)) (by decide) (fun K hK=>?_)
                refine Kd.N_append_rows_step (Kd.slice 26 (Kd.slice 3 (Kd.int .i64))) (w0:=w) w.heap.size (by rfl) (.tmp 119) (.tmp 121) 23 22 (.slice none 0 0) 24 rfl Try.underlying23 info22 rfl (by decide) (by omega) (.slice Aw Ah.length Ax) Ah Cd _ _ _ (fun k_=>(w.heap.size ≤ k_) ∧ some k_ ≠ (v158 : Value).ownBlock ∧ some k_ ≠ (v161 : Value).ownBlock ∧ k_ ≠ Ac ∧ k_ ≠ Ae ∧ k_ ≠ Ag ∧ k_ ≠ Ak) (fun k_=>((fun k_=>(w.heap.size ≤ k_) ∧ some k_ ≠ (v158 : Value).ownBlock ∧ some k_ ≠ (v161 : Value).ownBlock ∧ k_ ≠ Ac ∧ k_ ≠ Ae ∧ k_ ≠ Ag ∧ k_ ≠ Ak)) k_ ∧ some k_ ≠ (.slice Aw Ah.length Ax : Value).ownBlock) rfl rfl ?aO ?aR (fun _ hk=>hk) ?aF ?aB ?aS ?aL ?_
                (case aR=>exact (by skip;exact Kd.N_F (Kd.N_mono (ok':=(fun k_=>((fun k_=>(w.heap.size ≤ k_) ∧ some k_ ≠ (v158 : Value).ownBlock ∧ some k_ ≠ (v161 : Value).ownBlock ∧ k_ ≠ Ac ∧ k_ ≠ Ae ∧ k_ ≠ Ag ∧ k_ ≠ Ak)) k_ ∧ some k_ ≠ (.slice Aw Ah.length Ax : Value).ownBlock)) (Bi.out) (fun k_ hk=>⟨⟨hk.1,⟨hk.2.1,⟨hk.2.2.1,⟨hk.2.2.2.2.1,⟨hk.2.2.2.2.2.1,⟨hk.2.2.2.2.2.2.1,hk.2.2.2.2.2.2.2⟩⟩⟩⟩⟩⟩,hk.2.2.2.1⟩))))
                (case aB=>exact qB7)
                (case aF=>exact (fun k_ hk=>⟨(Nat.le_trans (below_size qB7) hk),Kd.fresh' (Kd.N_lt (qN A4.out)) k_ hk,Kd.fresh' (Kd.N_lt (qN Bv.out)) k_ hk,Kd.freshB (g:=Ac) (o:=.cells #[.int .i64 a0_0,.int .i64 a0_1,.int .i64 a0_2,.slice A0_3 l0_3.length c0_3,.slice A0_4 l0_4.length c0_4,.int .i64 a0_5] 25 (0,0)) (qD Aa.out) k_ hk,Kd.freshB (g:=Ae) (o:=.cells #[.int .i64 a1_0,.int .i64 a1_1,.int .i64 a1_2,.slice A1_3 l1_3.length c1_3,.slice A1_4 l1_4.length c1_4,.int .i64 a1_5] 25 (0,0)) (qD Ab.out) k_ hk,Kd.freshB (g:=Ag) (o:=.cells #[.int .i64 As,.int .i64 Ar,.int .i64 Ap,.slice none 0 0,.slice none 0 0,.int .i64 Ao] 25 (0,0)) (qD Ai.out) k_ hk,Kd.freshB (g:=Ak) (o:=.cells #[.int .i64 (wrap64 (a0_0 * a1_0)),.int .i64 a0_1,.int .i64 a1_2,.slice A0 Al.length A1,.slice Aw Ah.length Ax,.int .i64 (wrap64 ((wrap64 (a0_5 * a1_0)) + a1_5))] 25 (0,0)) (qD Aj.out) k_ hk⟩))
                (case aO=>exact (by (with_reducible repeat (first|apply Kd.N_alloc|apply Kd.N_drewN|apply Kd.N_drew));exact Kd.N_mono Ad.out (fun _ hk=>⟨hk.1,⟨hk.2.1,⟨hk.2.2.1,⟨hk.2.2.2.2.1,⟨hk.2.2.2.2.2.1,⟨hk.2.2.2.2.2.2.1,hk.2.2.2.2.2.2.2⟩⟩⟩⟩⟩⟩)))
                (case aS=>exact (below_size qB7))
                (case aL=>have:=LMc84.out;omega)
                intro v167 w97 ho hb hg hat
                rw [← Ny166.out] at ho
                have n0_:=Aside0.mk (blk_grown (g:=Ac) (o:=.cells #[.int .i64 a0_0,.int .i64 a0_1,.int .i64 a0_2,.slice A0_3 l0_3.length c0_3,.slice A0_4 l0_4.length c0_4,.int .i64 a0_5] 25 (0,0)) (qD Aa.out) hg (Kd.N_ne Ad.out Aa.out (by decide)))
                have n1_:=Aside0.mk (blk_grown (g:=Ae) (o:=.cells #[.int .i64 a1_0,.int .i64 a1_1,.int .i64 a1_2,.slice A1_3 l1_3.length c1_3,.slice A1_4 l1_4.length c1_4,.int .i64 a1_5] 25 (0,0)) (qD Ab.out) hg (Kd.N_ne Ad.out Ab.out (by decide)))
                have n2_:=Aside0.mk (blk_grown (g:=Ag) (o:=.cells #[.int .i64 As,.int .i64 Ar,.int .i64 Ap,.slice none 0 0,.slice none 0 0,.int .i64 Ao] 25 (0,0)) (qD Ai.out) hg (Kd.N_ne Ad.out Ai.out (by decide)))
                have n3_:=Aside0.mk (blk_grown (g:=Ak) (o:=.cells #[.int .i64 (wrap64 (a0_0 * a1_0)),.int .i64 a0_1,.int .i64 a1_2,.slice A0 Al.length A1,.slice Aw Ah.length Ax,.int .i64 (wrap64 ((wrap64 (a0_5 * a1_0)) + a1_5))] 25 (0,0)) (qD Aj.out) hg (Kd.N_ne Ad.out Aj.out (by decide)))
                have n4_:=Aside0.mk (Kd.N_afterv (ok:=(fun k_=>(w.heap.size ≤ k_) ∧ some k_ ≠ (v161 : Value).ownBlock ∧ some k_ ≠ (.slice Ao98 Cd.length co98 : Value).ownBlock ∧ k_ ≠ Ac ∧ k_ ≠ Ae ∧ k_ ≠ Ag ∧ k_ ≠ Ak)) (by (with_reducible repeat (first|apply Kd.N_alloc|apply Kd.N_drewN|apply Kd.N_drew));exact Kd.N_mono A4.out (fun _ hk=>⟨⟨hk.1,⟨hk.2.1,⟨hk.2.2.1,⟨hk.2.2.2.2.1,⟨hk.2.2.2.2.2.1,⟨hk.2.2.2.2.2.2.1,hk.2.2.2.2.2.2.2⟩⟩⟩⟩⟩⟩,hk.2.2.2.1⟩)) hg hat)
                have n5_:=Aside0.mk (Kd.N_afterv (ok:=(fun k_=>(w.heap.size ≤ k_) ∧ some k_ ≠ (.slice Ao98 Cd.length co98 : Value).ownBlock ∧ k_ ≠ Ac ∧ k_ ≠ Ae ∧ k_ ≠ Ag ∧ k_ ≠ Ak)) (by (with_reducible repeat (first|apply Kd.N_alloc|apply Kd.N_drewN|apply Kd.N_drew));exact Kd.N_mono Bv.out (fun _ hk=>⟨⟨hk.1,⟨hk.2.1,⟨hk.2.2.2.1,⟨hk.2.2.2.2.1,⟨hk.2.2.2.2.2.1,hk.2.2.2.2.2.2⟩⟩⟩⟩⟩,hk.2.2.1⟩)) hg hat)
                have n6_:=Aside0.mk (Kd.N_afterv (ok:=(fun k_=>(w.heap.size ≤ k_) ∧ some k_ ≠ (v158 : Value).ownBlock ∧ some k_ ≠ (v161 : Value).ownBlock ∧ k_ ≠ Ac ∧ k_ ≠ Ae ∧ k_ ≠ Ag ∧ k_ ≠ Ak)) (by (with_reducible repeat (first|apply Kd.N_alloc|apply Kd.N_drewN|apply Kd.N_drew));exact Kd.N_mono Bi.out (fun _ hk=>⟨⟨hk.1,⟨hk.2.1,⟨hk.2.2.1,⟨hk.2.2.2.2.1,⟨hk.2.2.2.2.2.1,⟨hk.2.2.2.2.2.2.1,hk.2.2.2.2.2.2.2⟩⟩⟩⟩⟩⟩,hk.2.2.2.1⟩)) hg hat)
                have n7_:=Aside0.mk (hb)
                have n8_:=Aside0.mk (ho)
                clear Aa
                clear Ab
                clear Ai
                clear Aj
                clear A4
                clear Bv
                clear Bi
                clear HB
                clear Ad
                have Aa:=n0_
                have Ab:=n1_
                have Ai:=n2_
                have Aj:=n3_
                have A4:=n4_
                have Bv:=n5_
                have Bi:=n6_
                have HB:=n7_
                have HO168:=n8_
                clear n0_ n1_ n2_ n3_ n4_ n5_ n6_ n7_ n8_
                clear ho hb hg hat
                obtain ⟨Ao99,co99,eo99⟩:=Kd.N_slice Bv.out
                (first|subst eo99|(injection eo99 with f1_ f2_ f3_;have f4_:=f1_.symm;have f5_:=f3_.symm;clear f1_ f2_ f3_;subst f4_;subst f5_))
                obtain ⟨Ao101,co101,eo101⟩:=Kd.N_slice HO168.out
                (first|subst eo101|(injection eo101 with f1_ f2_ f3_;have f4_:=f1_.symm;have f5_:=f3_.symm;clear f1_ f2_ f3_;subst f4_;subst f5_))
                refine hK.out _ _ ⟨(blk_cell Aj.out 0).trans rfl,(blk_cell Aj.out 1).trans rfl,(blk_cell Aj.out 2).trans rfl,(blk_cell Aj.out 3).trans rfl,(blk_cell Aj.out 4).trans rfl,(blk_cell Aj.out 5).trans rfl⟩ (fun hHeld=>?_)
                clear hK K
                refine norm_ (a':=?_) ?_ ?_
                rotate_left
                ·show Act.put _ (some 122) _ = _
                 simp only [Act.put,List.setIfInBounds_toArray,List.set_cons_zero,List.set_cons_succ,i64_w,i32_w]
                 rfl
                refine last_ (i:=11) (N:=none) #[true,true,true,true,true,true,true,true,true,true,true,true,false,false] rfl rfl (one_of HT_.out (by kernel_rfl)) (by decide) (fun K hK=>?_)
                have hs100 : w97.cell? ⟨Ak,3,none⟩ = some (.slice A0 Al.length A1):=(blk_cell Aj.out 3).trans rfl
                have hfs100:=blk_frozen Aj.out 3
                have hns100_0:=A6.out
                have hns100_1:=A7.out
                have hns100_2:=A8.out
                have hms100_0:=By.out
                have hms100_1:=Bz.out
                have hms100_2:=B0.out
                refine skip_ (w1:=?_) (by rfl) rfl ?_ ?_
                rotate_left
                ·go_simp
                 rfl
                refine hK.out _ _ ?_
                clear hK K
                refine pure_ (i:=12) (N:=some 124) (v:=?_) (a':=?_) #[true,true,true,true,true,true,true,true,true,true,true,true,true,false] rfl rfl (any_of HT_.out (by kernel_rfl)) (fun _ _ _ h=>h) (Or.inl ⟨by rfl,?_⟩) ?_ ?_
                rotate_left
                ·intro w'
                 go_simp
                 with_reducible rfl
                rotate_left
                ·simp only [Act.put,List.setIfInBounds_toArray,List.set_cons_zero,List.set_cons_succ,i64_w,i32_w]
                 rfl
                refine last_ (i:=13) (N:=none) #[true,true,true,true,true,true,true,true,true,true,true,true,true,true] rfl rfl (one_of HT_.out (by kernel_rfl)) (by decide) (fun K hK=>?_)
                have hs102 : w97.cell? ⟨Ak,4,none⟩ = some (.slice Aw Ah.length Ax):=(blk_cell Aj.out 4).trans rfl
                have hfs102:=blk_frozen Aj.out 4
                have hns102_0:=A6.out
                have hns102_1:=A7.out
                have hns102_2:=A8.out
                have hms102_0:=By.out
                have hms102_1:=Bz.out
                have hms102_2:=B0.out
                refine skip_ (w1:=?_) (by rfl) rfl ?_ ?_
                rotate_left
                ·go_simp
                 rfl
                refine hK.out _ _ ?_
                clear hK K
                refine done_ (done_of HT_.out (by kernel_rfl)) ?_
                try go_wp2
                go_roundg k3
                case measure=>have:=HK1.out;have:=HK2.out;have:=HK3.out;omega
                case rel=>exact ⟨(wrap64 (Bh + 1)),(As),(Ar),(Ap),(Ao),(Cm),(y166),(.slice Ao99 Cm.length co99),(.slice Ao101 y166.length co101),(by first|rfl|(simp;done)|(simp [*];done)),H',⟨by have:=HK1.out;have:=HK2.out;have:=HK3.out;omega⟩,⟨by (with_reducible repeat (first|apply Kd.N_alloc|apply Kd.N_drewN|apply Kd.N_drew));exact Kd.N_mono (Kd.N_far (p:=⟨Ak,4,none⟩) (Kd.N_far (p:=⟨Ak,3,none⟩) (Kd.N_mono Bv.out (fun k_ hk=>(⟨hk,hk.1.2.2.2.2.2⟩ : _ ∧ k_ ≠ Ak))) (fun _ hk=>hk.2) (.slice Ao99 Cm.length co99)) (fun _ hk=>hk.2) (.slice Ao101 y166.length co101)) (fun _ hk=>⟨hk.1.1.1,⟨hk.1.2,⟨hk.1.1.2.2.1,⟨hk.1.1.2.2.2.1,⟨hk.1.1.2.2.2.2.1,hk.1.1.2.2.2.2.2⟩⟩⟩⟩⟩)⟩,⟨by (with_reducible repeat (first|apply Kd.N_alloc|apply Kd.N_drewN|apply Kd.N_drew));exact Kd.N_mono (Kd.N_far (p:=⟨Ak,4,none⟩) (Kd.N_far (p:=⟨Ak,3,none⟩) (Kd.N_mono HO168.out (fun k_ hk=>(⟨hk,hk.2.2.2.2.2.2⟩ : _ ∧ k_ ≠ Ak))) (fun _ hk=>hk.2) (.slice Ao99 Cm.length co99)) (fun _ hk=>hk.2) (.slice Ao101 y166.length co101)) (fun _ hk=>⟨hk.1.1,⟨hk.1.2.2.1,⟨hk.1.2.2.2.1,⟨hk.1.2.2.2.2.1,⟨hk.1.2.2.2.2.2.1,hk.1.2.2.2.2.2.2⟩⟩⟩⟩⟩)⟩,⟨by (with_reducible repeat (first|refine blk_drewN ?_ _|refine blk_drew ?_|refine blk_alloc ?_ _));refine blk_far ?_ A6.out _;(with_reducible repeat (first|refine blk_drewN ?_ _|refine blk_drew ?_|refine blk_alloc ?_ _));refine blk_far ?_ A6.out _;(with_reducible repeat (first|refine blk_drewN ?_ _|refine blk_drew ?_|refine blk_alloc ?_ _));exact Aa.out⟩,⟨by (with_reducible repeat (first|refine blk_drewN ?_ _|refine blk_drew ?_|refine blk_alloc ?_ _));refine blk_far ?_ A7.out _;(with_reducible repeat (first|refine blk_drewN ?_ _|refine blk_drew ?_|refine blk_alloc ?_ _));refine blk_far ?_ A7.out _;(with_reducible repeat (first|refine blk_drewN ?_ _|refine blk_drew ?_|refine blk_alloc ?_ _));exact Ab.out⟩,⟨by (with_reducible repeat (first|refine blk_drewN ?_ _|refine blk_drew ?_|refine blk_alloc ?_ _));refine blk_far ?_ A8.out _;(with_reducible repeat (first|refine blk_drewN ?_ _|refine blk_drew ?_|refine blk_alloc ?_ _));refine blk_far ?_ A8.out _;(with_reducible repeat (first|refine blk_drewN ?_ _|refine blk_drew ?_|refine blk_alloc ?_ _));exact Ai.out⟩,⟨by (with_reducible repeat (first|refine blk_drewN ?_ _|refine blk_drew ?_|refine blk_alloc ?_ _));refine blk_put (cs:=#[.int .i64 (wrap64 (a0_0 * a1_0)),.int .i64 a0_1,.int .i64 a1_2,.slice Ao99 Cm.length co99,.slice Aw Ah.length Ax,.int .i64 (wrap64 ((wrap64 (a0_5 * a1_0)) + a1_5))]) ?_ 4 _ rfl;(with_reducible repeat (first|refine blk_drewN ?_ _|refine blk_drew ?_|refine blk_alloc ?_ _));refine blk_put (cs:=#[.int .i64 (wrap64 (a0_0 * a1_0)),.int .i64 a0_1,.int .i64 a1_2,.slice A0 Al.length A1,.slice Aw Ah.length Ax,.int .i64 (wrap64 ((wrap64 (a0_5 * a1_0)) + a1_5))]) ?_ 3 _ rfl;(with_reducible repeat (first|refine blk_drewN ?_ _|refine blk_drew ?_|refine blk_alloc ?_ _));exact Aj.out⟩,⟨by repeat (first|(with_reducible first|exact HB.out|apply below_alloc|apply pw_below_drewN|apply below_drew1|refine below_set ?_ Bs.out|refine below_set ?_ Bt.out|refine below_set ?_ Bu.out|refine below_set ?_ Ck.out)|exact HB.out)⟩⟩
               ·rw [if_neg c84] at H
                exact absurd H (by simp)
              ·rw [if_neg c83] at H
               exact absurd H (by simp)
          ·rw [if_neg c45] at H
           have c45b0 : decide (Bh < a1_0) = false:=decide_eq_false c45
           clear c45
           have H':=Aside0.mk H
           clear H
           go_wp2
           go_roundg k2
           case measure=>have:=HK1.out;have:=HK2.out;omega
           case rel=>exact ⟨(wrap64 (At + 1)),(B9),(Ca),(Cb),(Cc),(Al),(Ah),(Am),(An),(by first|rfl|(simp;done)|(simp [*];done)),H',⟨by have:=HK1.out;have:=HK2.out;omega⟩,⟨by (with_reducible repeat (first|apply Kd.N_alloc|apply Kd.N_drewN|apply Kd.N_drew));exact Af.out⟩,⟨by (with_reducible repeat (first|apply Kd.N_alloc|apply Kd.N_drewN|apply Kd.N_drew));exact Ad.out⟩,⟨by (with_reducible repeat (first|refine blk_drewN ?_ _|refine blk_drew ?_|refine blk_alloc ?_ _));exact Aa.out⟩,⟨by (with_reducible repeat (first|refine blk_drewN ?_ _|refine blk_drew ?_|refine blk_alloc ?_ _));exact Ab.out⟩,⟨by (with_reducible repeat (first|refine blk_drewN ?_ _|refine blk_drew ?_|refine blk_alloc ?_ _));exact Ai.out⟩,⟨by (with_reducible repeat (first|refine blk_drewN ?_ _|refine blk_drew ?_|refine blk_alloc ?_ _));exact Aj.out⟩,⟨by repeat (first|(with_reducible first|exact HB.out|apply below_alloc|apply pw_below_drewN|apply below_drew1|refine below_set ?_ Bs.out|refine below_set ?_ Bt.out|refine below_set ?_ Bu.out|refine below_set ?_ Ck.out)|exact HB.out)⟩⟩
       ·rw [if_neg c40] at H
        have c40b0 : decide (At < a0_0) = false:=decide_eq_false c40
        clear c40
        simp only [Option.some.injEq,Prod.mk.injEq] at H
        obtain ⟨rfl,rfl,rfl,rfl,rfl,rfl,rfl⟩:=H
        have hnb103:=By.out
        have hnc103:=A6.out
        have hnb104:=Bz.out
        have hnc104:=A7.out
        have hnb105:=B0.out
        have hnc105:=A8.out
        have hcz106_0 : wr.cell? ⟨Ak,0,none⟩ = some (.int .i64 (wrap64 (a0_0 * a1_0))):=(blk_cell Aj.out 0).trans rfl
        have hcz106_1 : wr.cell? ⟨Ak,1,none⟩ = some (.int .i64 a0_1):=(blk_cell Aj.out 1).trans rfl
        have hcz106_2 : wr.cell? ⟨Ak,2,none⟩ = some (.int .i64 a1_2):=(blk_cell Aj.out 2).trans rfl
        have hcz106_3 : wr.cell? ⟨Ak,3,none⟩ = some (Am):=(blk_cell Aj.out 3).trans rfl
        have hcz106_4 : wr.cell? ⟨Ak,4,none⟩ = some (An):=(blk_cell Aj.out 4).trans rfl
        have hcz106_5 : wr.cell? ⟨Ak,5,none⟩ = some (.int .i64 (wrap64 ((wrap64 (a0_5 * a1_0)) + a1_5))):=(blk_cell Aj.out 5).trans rfl
        have hfz106_0:=blk_frozen Aj.out 0
        have hfz106_1:=blk_frozen Aj.out 1
        have hfz106_2:=blk_frozen Aj.out 2
        have hfz106_3:=blk_frozen Aj.out 3
        have hfz106_4:=blk_frozen Aj.out 4
        have hfz106_5:=blk_frozen Aj.out 5
        have hnb107:=Bb.out
        have hnc107:=Ba.out
        have hnb108:=Bd.out
        have hnc108:=Bc.out
        have hcz109_0 : wr.cell? ⟨Ag,0,none⟩ = some (.int .i64 B1):=(blk_cell Ai.out 0).trans rfl
        have hcz109_1 : wr.cell? ⟨Ag,1,none⟩ = some (.int .i64 Bw):=(blk_cell Ai.out 1).trans rfl
        have hcz109_2 : wr.cell? ⟨Ag,2,none⟩ = some (.int .i64 Br):=(blk_cell Ai.out 2).trans rfl
        have hcz109_3 : wr.cell? ⟨Ag,3,none⟩ = some (.slice none 0 0):=(blk_cell Ai.out 3).trans rfl
        have hcz109_4 : wr.cell? ⟨Ag,4,none⟩ = some (.slice none 0 0):=(blk_cell Ai.out 4).trans rfl
        have hcz109_5 : wr.cell? ⟨Ag,5,none⟩ = some (.int .i64 Bl):=(blk_cell Ai.out 5).trans rfl
        have hfz109_0:=blk_frozen Ai.out 0
        have hfz109_1:=blk_frozen Ai.out 1
        have hfz109_2:=blk_frozen Ai.out 2
        have hfz109_3:=blk_frozen Ai.out 3
        have hfz109_4:=blk_frozen Ai.out 4
        have hfz109_5:=blk_frozen Ai.out 5
        obtain ⟨Ao110,co110,eo110⟩:=Kd.N_slice Af.out
        subst eo110
        obtain ⟨Ao111,co111,eo111⟩:=Kd.N_slice Ad.out
        subst eo111
        go_wp2
        refine bodyPost_ret (results_ct rfl _ _ Ag 25 #[.int .i64 (wrap64 (a0_0 * a1_0)),.int .i64 a0_1,.int .i64 a1_2,.slice Ao110 Bn.length co110,.slice Ao111 Bp.length co111,.int .i64 (wrap64 ((wrap64 (a0_5 * a1_0)) + a1_5))] (0,0) _ rfl (by (with_reducible repeat (first|refine blk_drewN ?_ _|refine blk_drew ?_|refine blk_alloc ?_ _));refine blk_put (cs:=#[.int .i64 (wrap64 (a0_0 * a1_0)),.int .i64 a0_1,.int .i64 a1_2,.slice Ao110 Bn.length co110,.slice Ao111 Bp.length co111,.int .i64 Bl]) ?_ 5 _ rfl;(with_reducible repeat (first|refine blk_drewN ?_ _|refine blk_drew ?_|refine blk_alloc ?_ _));refine blk_put (cs:=#[.int .i64 (wrap64 (a0_0 * a1_0)),.int .i64 a0_1,.int .i64 a1_2,.slice Ao110 Bn.length co110,.slice none 0 0,.int .i64 Bl]) ?_ 4 _ rfl;(with_reducible repeat (first|refine blk_drewN ?_ _|refine blk_drew ?_|refine blk_alloc ?_ _));refine blk_put (cs:=#[.int .i64 (wrap64 (a0_0 * a1_0)),.int .i64 a0_1,.int .i64 a1_2,.slice none 0 0,.slice none 0 0,.int .i64 Bl]) ?_ 3 _ rfl;(with_reducible repeat (first|refine blk_drewN ?_ _|refine blk_drew ?_|refine blk_alloc ?_ _));refine blk_put (cs:=#[.int .i64 (wrap64 (a0_0 * a1_0)),.int .i64 a0_1,.int .i64 Br,.slice none 0 0,.slice none 0 0,.int .i64 Bl]) ?_ 2 _ rfl;(with_reducible repeat (first|refine blk_drewN ?_ _|refine blk_drew ?_|refine blk_alloc ?_ _));refine blk_put (cs:=#[.int .i64 (wrap64 (a0_0 * a1_0)),.int .i64 Bw,.int .i64 Br,.slice none 0 0,.slice none 0 0,.int .i64 Bl]) ?_ 1 _ rfl;(with_reducible repeat (first|refine blk_drewN ?_ _|refine blk_drew ?_|refine blk_alloc ?_ _));refine blk_put (cs:=#[.int .i64 B1,.int .i64 Bw,.int .i64 Br,.slice none 0 0,.slice none 0 0,.int .i64 Bl]) ?_ 0 _ rfl;(with_reducible repeat (first|refine blk_drewN ?_ _|refine blk_drew ?_|refine blk_alloc ?_ _));exact Ai.out) Try.underlying25 rfl (by kernel_rfl)) rfl ?_
        exact ⟨_,_,by first|rfl|(simp [errW_none,errW_some] <;> rfl)|(simp [*,errW_none,errW_some] <;> rfl),by (with_reducible repeat (first|apply Kd.N_alloc|apply Kd.N_drewN|apply Kd.N_drew));exact Kd.N_mono (Kd.N_far (p:=⟨Ag,5,none⟩) (Kd.N_far (p:=⟨Ag,4,none⟩) (Kd.N_far (p:=⟨Ag,3,none⟩) (Kd.N_far (p:=⟨Ag,2,none⟩) (Kd.N_far (p:=⟨Ag,1,none⟩) (Kd.N_far (p:=⟨Ag,0,none⟩) (Kd.N_mono Af.out (fun k_ hk=>(⟨hk,hk.2.2.2.2.1⟩ : _ ∧ k_ ≠ Ag))) (fun _ hk=>hk.2) (.int .i64 (wrap64 (a0_0 * a1_0)))) (fun _ hk=>hk.2) (.int .i64 a0_1)) (fun _ hk=>hk.2) (.int .i64 a1_2)) (fun _ hk=>hk.2) (.slice Ao110 Bn.length co110)) (fun _ hk=>hk.2) (.slice Ao111 Bp.length co111)) (fun _ hk=>hk.2) (.int .i64 (wrap64 ((wrap64 (a0_5 * a1_0)) + a1_5)))) (fun _ hk=>⟨hk.1.1,hk.1.2.1⟩),by (with_reducible repeat (first|apply Kd.N_alloc|apply Kd.N_drewN|apply Kd.N_drew));exact Kd.N_mono (Kd.N_far (p:=⟨Ag,5,none⟩) (Kd.N_far (p:=⟨Ag,4,none⟩) (Kd.N_far (p:=⟨Ag,3,none⟩) (Kd.N_far (p:=⟨Ag,2,none⟩) (Kd.N_far (p:=⟨Ag,1,none⟩) (Kd.N_far (p:=⟨Ag,0,none⟩) (Kd.N_mono Ad.out (fun k_ hk=>(⟨hk,hk.2.2.2.2.1⟩ : _ ∧ k_ ≠ Ag))) (fun _ hk=>hk.2) (.int .i64 (wrap64 (a0_0 * a1_0)))) (fun _ hk=>hk.2) (.int .i64 a0_1)) (fun _ hk=>hk.2) (.int .i64 a1_2)) (fun _ hk=>hk.2) (.slice Ao110 Bn.length co110)) (fun _ hk=>hk.2) (.slice Ao111 Bp.length co111)) (fun _ hk=>hk.2) (.int .i64 (wrap64 ((wrap64 (a0_5 * a1_0)) + a1_5)))) (fun _ hk=>⟨hk.1.1,hk.1.2.1⟩),by repeat (first|(with_reducible first|exact HB.out|apply below_alloc|apply pw_below_drewN|apply below_drew1|refine below_set ?_ Bs.out|refine below_set ?_ Bt.out|refine below_set ?_ Bu.out|refine below_set ?_ Ck.out)|exact HB.out)⟩
   ·exact absurd HX.out.2.2.1 c7
  ·exact absurd (Option.some.inj (A5.out.symm.trans HX.out.2.1)) c6
 ·exact absurd (Option.some.inj (A3.out.symm.trans HX.out.1)) c4
end Go.Proofs.Ytlkeemcapemkiaa.GA
