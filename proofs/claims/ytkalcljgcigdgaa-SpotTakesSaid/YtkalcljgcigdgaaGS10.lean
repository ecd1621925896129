-- Written by ext.py, a program of this session.
import Derived.Test.YtkalcljgcigdgaaGS0
import Derived.Test.YtkalcljgcigdgaaGS3
import Derived.Test.YtkalcljgcigdgaaGS7
import Derived.Test.YtkalcljgcigdgaaGS9
namespace Go.Proofs.Ytkalcljgcigdgaa.GS
open Go.RowKit Go.Proofs.YtkalcljgcigdgaaW.PrintWords Go.Proofs.YtkalcljgcigdgaaW.PrintLast Go.Proofs.YtkalcljgcigdgaaW.PrintMore
attribute [local go_sem] max2_int min2_int max_two min_two max_three min_three max_four min_four cellIs_set   -- for this text's walks alone
set_option linter.unusedVariables false
set_option linter.unusedSimpArgs false
/-! ### sentence_Take: function 40 -/
def sentence_Take.f (k : Nat) (l0 : List (S128)) (l1 : List Int) : Option (Bool):=(sentence_spans.f k l0 l1).bind fun t170=>(if 0 ≤ (wrap64 ((l0.length : Int) - 1)) then (if (wrap64 ((l0.length : Int) - 1)) < (t170.length : Int) then (if 0 < ((rd_L4 t170 (wrap64 ((l0.length : Int) - 1))).length : Int) then (some ((Go.bits .and .u32 (shr .u32 (rd (rd_L4 t170 (wrap64 ((l0.length : Int) - 1))) 0) (l1.length : Int)) 1) == 1)) else (none)) else (none)) else (none))
theorem sentence_Take.mono : ∀ a0 a1 k,LeO (sentence_Take.f k a0 a1) (sentence_Take.f (k + 1) a0 a1):=by
 intro a0 a1 k
 unfold sentence_Take.f
 repeat' first
   | (with_reducible exact sentence_spans.mono _ _ _)
   | (with_reducible exact LeO.refl _)
   | (with_reducible exact LeO.none _)
   | (with_reducible refine LeO.ite ?_ ?_)
   | (with_reducible refine LeO.bind ?_ (fun _=>?_))
   | exact sentence_spans.mono _ _ _
   | exact LeO.none _
   | refine LeO.ite ?_ ?_
   | refine LeO.bind ?_ (fun _=>?_)
set_option maxHeartbeats 8000000 in
set_option maxRecDepth 100000 in
theorem sentence_Take.calls (k : Nat) (A0 : Option Addr) (c0 : Nat) (l0 : List (S128)) (A1 : Option Addr) (c1 : Nat) (l1 : List Int) (r : Bool) (w : World) (hr0 : Kd.C k128 w A0 l0.length l0) (hc0 : l0.length ≤ c0) (hr1 : Kd.C (Kd.int .i64) w A1 l1.length l1) (hc1 : l1.length ≤ c1) (h : sentence_Take.f k l0 l1 = some r) :
  Calls Try.prog 40 #[.slice A0 l0.length c0,.slice A1 l1.length c1] w fun e w'=>e = .returned (.bool r) ∧ Below w.heap.size w w':=by
 have HR0:=Aside0.mk hr0
 have HC0:=Aside0.mk hc0
 clear hr0 hc0
 have HR1:=Aside0.mk hr1
 have HC1:=Aside0.mk hc1
 clear hr1 hc1
 have HB:=Aside0.mk (Below.refl w.heap.size w)
 have H : ((sentence_spans.f k l0 l1).bind fun t170=>(if 0 ≤ (wrap64 ((l0.length : Int) - 1)) then (if (wrap64 ((l0.length : Int) - 1)) < (t170.length : Int) then (if 0 < ((rd_L4 t170 (wrap64 ((l0.length : Int) - 1))).length : Int) then (some ((Go.bits .and .u32 (shr .u32 (rd (rd_L4 t170 (wrap64 ((l0.length : Int) - 1))) 0) (l1.length : Int)) 1) == 1)) else (none)) else (none)) else (none))) = some r:=h
 clear h
 replace H:=Option.bind_eq_some_iff.mp H
 obtain ⟨t170,A30,H⟩:=H
 replace H : (if 0 ≤ (wrap64 ((l0.length : Int) - 1)) then (if (wrap64 ((l0.length : Int) - 1)) < (t170.length : Int) then (if 0 < ((rd_L4 t170 (wrap64 ((l0.length : Int) - 1))).length : Int) then (some ((Go.bits .and .u32 (shr .u32 (rd (rd_L4 t170 (wrap64 ((l0.length : Int) - 1))) 0) (l1.length : Int)) 1) == 1)) else (none)) else (none)) else (none)) = some r:=H
 have A3:=Aside0.mk A30
 clear A30
 obtain ⟨ji4,hji4⟩ : ∃ j_ : Int,(wrap64 ((l0.length : Int) - 1)) = j_:=⟨_,rfl⟩
 replace H : (if 0 ≤ (ji4) then (if (ji4) < (t170.length : Int) then (if 0 < ((rd_L4 t170 (ji4)).length : Int) then (some ((Go.bits .and .u32 (shr .u32 (rd (rd_L4 t170 (ji4)) 0) (l1.length : Int)) 1) == 1)) else (none)) else (none)) else (none)) = some r:=by first|(rw [hji4] at H;exact H)|(simp only [hji4] at H ⊢;exact H)
 (try rw [hji4] at A3)
 have hji4w : (IntKind.i64.wrap ((l0.length : Int) - 1)) = ji4:=(i64_w _).trans hji4
 by_cases c5 : 0 ≤ (ji4)
 ·rw [if_pos c5] at H
  have c5b0 : decide (0 ≤ (ji4)) = true:=decide_eq_true c5
  clear c5
  by_cases c6 : (ji4) < (t170.length : Int)
  ·rw [if_pos c6] at H
   have c6b0 : decide ((ji4) < (t170.length : Int)) = true:=decide_eq_true c6
   clear c6
   by_cases c7 : 0 < ((rd_L4 t170 (ji4)).length : Int)
   ·rw [if_pos c7] at H
    have c7b0 : decide (0 < ((rd_L4 t170 (ji4)).length : Int)) = true:=decide_eq_true c7
    have c7b1 : decide (0 < (rd_L4 t170 (ji4)).length) = true:=decide_eq_true (by omega)
    clear c7
    obtain ⟨ji8,hji8⟩ : ∃ j_ : Int,(shr .u32 (rd (rd_L4 t170 (ji4)) 0) (l1.length : Int)) = j_:=⟨_,rfl⟩
    replace H : (some ((Go.bits .and .u32 (ji8) 1) == 1)) = some r:=by first|(rw [hji8] at H;exact H)|(simp only [hji8] at H ⊢;exact H)
    (try rw [hji8] at A3)
    have hji8_ : ((rd (rd_L4 t170 (ji4)) 0) / 2 ^ min (l1.length : Int).toNat 32) = ji8:=hji8
    have hji8z : (l1.length : Int) ≤ 32 → ((rd (rd_L4 t170 (ji4)) 0) / 2 ^ (l1.length : Int).toNat) = ji8:=shr_small hji8
    have hji8p : ((rd (rd_L4 t170 (ji4)) 0) / 2 ^ min l1.length 32) = ji8:=hji8_
    have hji8q : (l1.length : Int) ≤ 32 → ((rd (rd_L4 t170 (ji4)) 0) / 2 ^ l1.length) = ji8:=hji8z
    obtain rfl:=Option.some.inj H
    go_enter Try.func40,Try.ntmps40
    go_wp2_with (first|((with_reducible refine gate_callee (f:=74) rfl ?_);refine goesL_ (some 7) rfl rfl Try.func74 (by kernel_rfl) rfl #[.slice A0 l0.length c0,.slice A1 l1.length c1] rfl (by (try simp only [List.map_toArray,List.map_cons,List.map_nil]);first|done|rfl|(simp only [List.length_drop,List.length_take];rfl)) ?_;(with_reducible refine (sentence_spans.calls k _ _ l0 _ _ l1 t170 _ ?side1 ?side2 ?side3 ?side4 A3.out).mono ?_);(case side1=>repeat (first|exact HR0.out|(with_reducible refine Kd.C_alloc ?_ _)|(with_reducible refine Kd.C_drewN ?_ _)|(with_reducible refine Kd.C_drew ?_)));(case side2=>exact HC0.out);(case side3=>repeat (first|exact HR1.out|(with_reducible refine Kd.C_alloc ?_ _)|(with_reducible refine Kd.C_drewN ?_ _)|(with_reducible refine Kd.C_drew ?_)));(case side4=>exact HC1.out);rintro e w9 ⟨v171,rfl,ho0,hb⟩;refine ⟨_,rfl,?_⟩;have n0_:=Aside0.mk (Kd.S_lower ho0 (below_size (by repeat (first|(with_reducible first|exact HB.out|apply below_alloc|apply pw_below_drewN|apply below_drew1)|exact HB.out))));have n1_:=Aside0.mk (below_step (by repeat (first|(with_reducible first|exact HB.out|apply below_alloc|apply pw_below_drewN|apply below_drew1)|exact HB.out)) hb);clear HB;have HO172:=n0_;have HB:=n1_;clear n0_ n1_;(try clear hb);(try clear hb2);(try clear hk);(try clear hi);(try clear ho0);obtain ⟨Ao10,co10,eo10⟩:=Kd.S_slice HO172.out;subst eo10;have p173 : 0 ≤ ((ji4) : Int):=of_decide_eq_true (by first|(with_reducible assumption)|assumption);have q173 : (ji4) < (t170.length : Int):=of_decide_eq_true (by first|(with_reducible assumption)|assumption);obtain ⟨ad173,A173_0,c173_0,e173,hx173_0,hl173_0,hi173_0⟩:=at_L4 (Kd.S_reads' HO172.out).2.2 (ji4) p173 q173;cases e173;obtain ⟨ce173,hce173,hMe173,hcc173⟩:=Kd.S_get HO172.out [] (ji4) p173 (by first|exact q173|exact of_decide_eq_true (by first|(with_reducible assumption)|assumption)|(have e_:=(Kd.S_reads' HO172.out).1;omega));obtain ⟨ve173_0,rfl,ge173_0⟩:=id hMe173;have hv173_0:=hcc173 0 _ rfl;rw [Nat.add_zero,show ((Kd.slice 33 (Kd.int .u32))).sz = 1 from rfl,Nat.mul_one] at hv173_0;replace hv173_0:=Option.some.inj (hv173_0.symm.trans hx173_0);rw [hv173_0] at ge173_0;have HL173_0:=Aside0.mk (show Kd.R (Kd.int .u32) 33 _ _ _ _ (rd_L4 t170 (ji4)) from ge173_0);clear hv173_0 ge173_0;clear hcc173 hce173;have HR173_0:=Aside0.mk hi173_0;have HC173_0:=Aside0.mk hl173_0;clear hi173_0 hl173_0;replace p173:=eq_true p173;replace q173:=eq_true q173;have p174 : 0 ≤ (0 : Int):=(by omega);have q174 : 0 < ((rd_L4 t170 (ji4)).length : Int):=of_decide_eq_true (by first|(with_reducible assumption)|assumption);obtain ⟨ad174,e174,hx174_0⟩:=Kd.at_int (by repeat (first|(with_reducible exact HR173_0.out)|(with_reducible refine Kd.C_alloc ?_ _)|(with_reducible refine Kd.C_drewN ?_ _)|(with_reducible refine Kd.C_drew ?_)|exact HR173_0.out)) 0 p174 q174;cases e174;have qi174 : (0 < (rd_L4 t170 (ji4)).length) = True:=eq_true (by omega);(try rw [show ((0 : Int)).toNat = 0 from rfl] at hx174_0);(try rw [Addr.add_zero'] at hx174_0);replace p174:=eq_true p174;replace q174:=eq_true q174))
    go_ret
    exact ⟨by first|rfl|(simp [errW_none,errW_some] <;> rfl)|(simp only [← hji4,← hji8];first|rfl|(simp [errW_none,errW_some] <;> rfl))|(simp [*,errW_none,errW_some] <;> rfl),by repeat (first|(with_reducible first|exact HB.out|apply below_alloc|apply pw_below_drewN|apply below_drew1)|exact HB.out)⟩
   ·rw [if_neg c7] at H
    exact absurd H (by simp)
  ·rw [if_neg c6] at H
   exact absurd H (by simp)
 ·rw [if_neg c5] at H
  exact absurd H (by simp)
/-! ### sentence_Takes: function 15 -/
def sentence_Takes.f (k : Nat) (a0 : Int) (l1 : List (S128)) (l2 : List Int) : Option (Bool × Int):=(sentence_Check.f k a0 l1).bind fun t175=>(if t175 = 0 then ((machine_Words.f a0 l2).bind fun t176=>(if t176 = 0 then ((sentence_Take.f k l1 l2).bind fun t177=>(some (t177,0))) else (some (false,t176)))) else (some (false,t175)))
theorem sentence_Takes.mono : ∀ a0 a1 a2 k,LeO (sentence_Takes.f k a0 a1 a2) (sentence_Takes.f (k + 1) a0 a1 a2):=by
 intro a0 a1 a2 k
 unfold sentence_Takes.f
 repeat' first
   | (with_reducible exact sentence_Check.mono _ _ _)
   | (with_reducible exact sentence_Take.mono _ _ _)
   | (with_reducible exact LeO.refl _)
   | (with_reducible exact LeO.none _)
   | (with_reducible refine LeO.ite ?_ ?_)
   | (with_reducible refine LeO.bind ?_ (fun _=>?_))
   | exact sentence_Check.mono _ _ _
   | exact sentence_Take.mono _ _ _
   | exact LeO.none _
   | refine LeO.ite ?_ ?_
   | refine LeO.bind ?_ (fun _=>?_)
set_option maxHeartbeats 8000000 in
set_option maxRecDepth 100000 in
theorem sentence_Takes.calls (k : Nat) (a0 : Int) (A1 : Option Addr) (c1 : Nat) (l1 : List (S128)) (A2 : Option Addr) (c2 : Nat) (l2 : List Int) (r1 : Bool) (r2 : Int) (w : World) (hr1 : Kd.C k128 w A1 l1.length l1) (hc1 : l1.length ≤ c1) (hr2 : Kd.C (Kd.int .i64) w A2 l2.length l2) (hc2 : l2.length ≤ c2) (h : sentence_Takes.f k a0 l1 l2 = some (r1,r2)) :
  Calls Try.prog 15 #[.int .i64 a0,.slice A1 l1.length c1,.slice A2 l2.length c2] w fun e w'=>e = .returned (.tuple #[.bool r1,.int .i64 r2]) ∧ Below w.heap.size w w':=by
 have HR1:=Aside0.mk hr1
 have HC1:=Aside0.mk hc1
 clear hr1 hc1
 have HR2:=Aside0.mk hr2
 have HC2:=Aside0.mk hc2
 clear hr2 hc2
 have HB:=Aside0.mk (Below.refl w.heap.size w)
 have H : ((sentence_Check.f k a0 l1).bind fun t175=>(if t175 = 0 then ((machine_Words.f a0 l2).bind fun t176=>(if t176 = 0 then ((sentence_Take.f k l1 l2).bind fun t177=>(some (t177,0))) else (some (false,t176)))) else (some (false,t175)))) = some (r1,r2):=h
 clear h
 replace H:=Option.bind_eq_some_iff.mp H
 obtain ⟨t175,A40,H⟩:=H
 replace H : (if t175 = 0 then ((machine_Words.f a0 l2).bind fun t176=>(if t176 = 0 then ((sentence_Take.f k l1 l2).bind fun t177=>(some (t177,0))) else (some (false,t176)))) else (some (false,t175))) = some (r1,r2):=H
 have A4:=Aside0.mk A40
 clear A40
 by_cases c5 : t175 = 0
 ·rw [if_pos c5] at H
  have c5b0 : (t175 == 0) = true:=beq_iff_eq.mpr c5
  have c5b1 : (t175 != 0) = false:=bne_eq_false_iff_eq.mpr c5
  clear c5
  replace H:=Option.bind_eq_some_iff.mp H
  obtain ⟨t176,A60,H⟩:=H
  replace H : (if t176 = 0 then ((sentence_Take.f k l1 l2).bind fun t177=>(some (t177,0))) else (some (false,t176))) = some (r1,r2):=H
  have A6:=Aside0.mk A60
  clear A60
  by_cases c7 : t176 = 0
  ·rw [if_pos c7] at H
   have c7b0 : (t176 == 0) = true:=beq_iff_eq.mpr c7
   have c7b1 : (t176 != 0) = false:=bne_eq_false_iff_eq.mpr c7
   clear c7
   replace H:=Option.bind_eq_some_iff.mp H
   obtain ⟨t177,A80,H⟩:=H
   replace H : (some (t177,0)) = some (r1,r2):=H
   have A8:=Aside0.mk A80
   clear A80
   simp only [Option.some.injEq,Prod.mk.injEq] at H
   obtain ⟨rfl,rfl⟩:=H
   go_enter Try.func15,Try.ntmps15
   go_wp2_with (first|((with_reducible refine gate_callee (f:=36) rfl ?_);refine goesL_ (some 12) rfl rfl Try.func36 (by kernel_rfl) rfl #[.int .i64 a0,.slice A1 l1.length c1] rfl (by (try simp only [List.map_toArray,List.map_cons,List.map_nil]);first|done|rfl|(simp only [List.length_drop,List.length_take];rfl)) ?_;(with_reducible refine (sentence_Check.calls k a0 _ _ l1 t175 _ ?side1 ?side2 A4.out).mono ?_);(case side1=>repeat (first|exact HR1.out|(with_reducible refine Kd.C_alloc ?_ _)|(with_reducible refine Kd.C_drewN ?_ _)|(with_reducible refine Kd.C_drew ?_)));(case side2=>exact HC1.out);rintro e w9 ⟨rfl,hb⟩;refine ⟨_,rfl,?_⟩;have n0_:=Aside0.mk (below_step (by repeat (first|(with_reducible first|exact HB.out|apply below_alloc|apply pw_below_drewN|apply below_drew1)|exact HB.out)) hb);clear HB;have HB:=n0_;clear n0_;(try clear hb);(try clear hb2);(try clear hk);(try clear hi))|((with_reducible refine gate_callee (f:=39) rfl ?_);refine goesL_ (some 18) rfl rfl Try.func39 (by kernel_rfl) rfl #[.int .i64 a0,.slice A2 l2.length c2] rfl (by (try simp only [List.map_toArray,List.map_cons,List.map_nil]);first|done|rfl|(simp only [List.length_drop,List.length_take];rfl)) ?_;(with_reducible refine (machine_Words.calls a0 _ _ l2 t176 _ ?side1 ?side2 A6.out).mono ?_);(case side1=>repeat (first|exact (Kd.C_below HR2.out HB.out)|(with_reducible refine Kd.C_alloc ?_ _)|(with_reducible refine Kd.C_drewN ?_ _)|(with_reducible refine Kd.C_drew ?_)));(case side2=>exact HC2.out);rintro e w10 ⟨rfl,hb⟩;refine ⟨_,rfl,?_⟩;have n0_:=Aside0.mk (below_step (by repeat (first|(with_reducible first|exact HB.out|apply below_alloc|apply pw_below_drewN|apply below_drew1)|exact HB.out)) hb);clear HB;have HB:=n0_;clear n0_;(try clear hb);(try clear hb2);(try clear hk);(try clear hi))|((with_reducible refine gate_callee (f:=40) rfl ?_);refine goesL_ (some 24) rfl rfl Try.func40 (by kernel_rfl) rfl #[.slice A1 l1.length c1,.slice A2 l2.length c2] rfl (by (try simp only [List.map_toArray,List.map_cons,List.map_nil]);first|done|rfl|(simp only [List.length_drop,List.length_take];rfl)) ?_;(with_reducible refine (sentence_Take.calls k _ _ l1 _ _ l2 t177 _ ?side1 ?side2 ?side3 ?side4 A8.out).mono ?_);(case side1=>repeat (first|exact (Kd.C_below HR1.out HB.out)|(with_reducible refine Kd.C_alloc ?_ _)|(with_reducible refine Kd.C_drewN ?_ _)|(with_reducible refine Kd.C_drew ?_)));(case side2=>exact HC1.out);(case side3=>repeat (first|exact (Kd.C_below HR2.out HB.out)|(with_reducible refine Kd.C_alloc ?_ _)|(with_reducible refine Kd.C_drewN ?_ _)|(with_reducible refine Kd.C_drew ?_)));(case side4=>exact HC2.out);rintro e w11 ⟨rfl,hb⟩;refine ⟨_,rfl,?_⟩;have n0_:=Aside0.mk (below_step (by repeat (first|(with_reducible first|exact HB.out|apply below_alloc|apply pw_below_drewN|apply below_drew1)|exact HB.out)) hb);clear HB;have HB:=n0_;clear n0_;(try clear hb);(try clear hb2);(try clear hk);(try clear hi)))
   go_ret2
   exact ⟨by first|rfl|(simp [errW_none,errW_some] <;> rfl)|(simp [*,errW_none,errW_some] <;> rfl),by repeat (first|(with_reducible first|exact HB.out|apply below_alloc|apply pw_below_drewN|apply below_drew1)|exact HB.out)⟩
  ·rw [if_neg c7] at H
   have c7b0 : (t176 == 0) = false:=beq_eq_false_iff_ne.mpr c7
   have c7b1 : (t176 != 0) = true:=bne_iff_ne.mpr c7
   simp only [Option.some.injEq,Prod.mk.injEq] at H
   obtain ⟨rfl,rfl⟩:=H
   go_enter Try.func15,Try.ntmps15
   go_wp2_with (first|((with_reducible refine gate_callee (f:=36) rfl ?_);refine goesL_ (some 12) rfl rfl Try.func36 (by kernel_rfl) rfl #[.int .i64 a0,.slice A1 l1.length c1] rfl (by (try simp only [List.map_toArray,List.map_cons,List.map_nil]);first|done|rfl|(simp only [List.length_drop,List.length_take];rfl)) ?_;(with_reducible refine (sentence_Check.calls k a0 _ _ l1 t175 _ ?side1 ?side2 A4.out).mono ?_);(case side1=>repeat (first|exact HR1.out|(with_reducible refine Kd.C_alloc ?_ _)|(with_reducible refine Kd.C_drewN ?_ _)|(with_reducible refine Kd.C_drew ?_)));(case side2=>exact HC1.out);rintro e w12 ⟨rfl,hb⟩;refine ⟨_,rfl,?_⟩;have n0_:=Aside0.mk (below_step (by repeat (first|(with_reducible first|exact HB.out|apply below_alloc|apply pw_below_drewN|apply below_drew1)|exact HB.out)) hb);clear HB;have HB:=n0_;clear n0_;(try clear hb);(try clear hb2);(try clear hk);(try clear hi))|((with_reducible refine gate_callee (f:=39) rfl ?_);refine goesL_ (some 18) rfl rfl Try.func39 (by kernel_rfl) rfl #[.int .i64 a0,.slice A2 l2.length c2] rfl (by (try simp only [List.map_toArray,List.map_cons,List.map_nil]);first|done|rfl|(simp only [List.length_drop,List.length_take];rfl)) ?_;(with_reducible refine (machine_Words.calls a0 _ _ l2 t176 _ ?side1 ?side2 A6.out).mono ?_);(case side1=>repeat (first|exact (Kd.C_below HR2.out HB.out)|(with_reducible refine Kd.C_alloc ?_ _)|(with_reducible refine Kd.C_drewN ?_ _)|(with_reducible refine Kd.C_drew ?_)));(case side2=>exact HC2.out);rintro e w13 ⟨rfl,hb⟩;refine ⟨_,rfl,?_⟩;have n0_:=Aside0.mk (below_step (by repeat (first|(with_reducible first|exact HB.out|apply below_alloc|apply pw_below_drewN|apply below_drew1)|exact HB.out)) hb);clear HB;have HB:=n0_;clear n0_;(try clear hb);(try clear hb2);(try clear hk);(try clear hi)))
   go_ret2
   exact ⟨by first|rfl|(simp [errW_none,errW_some] <;> rfl)|(simp [*,errW_none,errW_some] <;> rfl),by repeat (first|(with_reducible first|exact HB.out|apply below_alloc|apply pw_below_drewN|apply below_drew1)|exact HB.out)⟩
 ·rw [if_neg c5] at H
  have c5b0 : (t175 == 0) = false:=beq_eq_false_iff_ne.mpr c5
  have c5b1 : (t175 != 0) = true:=bne_iff_ne.mpr c5
  simp only [Option.some.injEq,Prod.mk.injEq] at H
  obtain ⟨rfl,rfl⟩:=H
  go_enter Try.func15,Try.ntmps15
  go_wp2_with (first|((with_reducible refine gate_callee (f:=36) rfl ?_);refine goesL_ (some 12) rfl rfl Try.func36 (by kernel_rfl) rfl #[.int .i64 a0,.slice A1 l1.length c1] rfl (by (try simp only [List.map_toArray,List.map_cons,List.map_nil]);first|done|rfl|(simp only [List.length_drop,List.length_take];rfl)) ?_;(with_reducible refine (sentence_Check.calls k a0 _ _ l1 t175 _ ?side1 ?side2 A4.out).mono ?_);(case side1=>repeat (first|exact HR1.out|(with_reducible refine Kd.C_alloc ?_ _)|(with_reducible refine Kd.C_drewN ?_ _)|(with_reducible refine Kd.C_drew ?_)));(case side2=>exact HC1.out);rintro e w14 ⟨rfl,hb⟩;refine ⟨_,rfl,?_⟩;have n0_:=Aside0.mk (below_step (by repeat (first|(with_reducible first|exact HB.out|apply below_alloc|apply pw_below_drewN|apply below_drew1)|exact HB.out)) hb);clear HB;have HB:=n0_;clear n0_;(try clear hb);(try clear hb2);(try clear hk);(try clear hi)))
  go_ret2
  exact ⟨by first|rfl|(simp [errW_none,errW_some] <;> rfl)|(simp [*,errW_none,errW_some] <;> rfl),by repeat (first|(with_reducible first|exact HB.out|apply below_alloc|apply pw_below_drewN|apply below_drew1)|exact HB.out)⟩
end Go.Proofs.Ytkalcljgcigdgaa.GS
