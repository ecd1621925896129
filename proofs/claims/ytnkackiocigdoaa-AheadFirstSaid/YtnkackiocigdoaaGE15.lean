-- Written by ext.py, a program of this session.
import Derived.Test.YtnkackiocigdoaaGE0
import Derived.Test.YtnkackiocigdoaaGE4
import Derived.Test.YtnkackiocigdoaaGE9
import Derived.Test.YtnkackiocigdoaaGE11
import Derived.Test.YtnkackiocigdoaaGE14
namespace Go.Proofs.Ytnkackiocigdoaa.GE
open Go.RowKit Go.Proofs.YtnkackiocigdoaaW.PrintWords Go.Proofs.YtnkackiocigdoaaW.PrintLast Go.Proofs.YtnkackiocigdoaaW.PrintMore
attribute [local go_sem] max2_int min2_int max_two min_two max_three min_three max_four min_four cellIs_set   -- for this text's walks alone
set_option linter.unusedVariables false
set_option linter.unusedSimpArgs false
/-! ### ahead_Follow: function 30 -/
def ahead_Follow.f (k : Nat) (a0_0 : Int) (a0_1 : Int) (a0_2 : Int) (l0_3 : List (S27)) : Option (List Int × Int):=(grammar_Check.f k a0_0 a0_1 a0_2 l0_3).bind fun t221=>(if t221 = 0 then ((grammar_Least.f k a0_0 a0_1 a0_2 l0_3 false).bind fun t222=>((ahead_firsts.f k a0_0 a0_1 a0_2 l0_3 t222).bind fun t223=>((ahead_follows.f k a0_0 a0_1 a0_2 l0_3 t223 t222).bind fun t226=>(some (t226,0))))) else (some (([] : List Int),t221)))
theorem ahead_Follow.mono : ∀ a0 a1 a2 a3 k,LeO (ahead_Follow.f k a0 a1 a2 a3) (ahead_Follow.f (k + 1) a0 a1 a2 a3):=by
 intro a0 a1 a2 a3 k
 unfold ahead_Follow.f
 repeat' first
   | (with_reducible exact ahead_firsts.mono _ _ _ _ _ _)
   | (with_reducible exact ahead_follows.mono _ _ _ _ _ _ _)
   | (with_reducible exact grammar_Check.mono _ _ _ _ _)
   | (with_reducible exact grammar_Least.mono _ _ _ _ _ _)
   | (with_reducible exact LeO.refl _)
   | (with_reducible exact LeO.none _)
   | (with_reducible refine LeO.ite ?_ ?_)
   | (with_reducible refine LeO.bind ?_ (fun _=>?_))
   | exact ahead_firsts.mono _ _ _ _ _ _
   | exact ahead_follows.mono _ _ _ _ _ _ _
   | exact grammar_Check.mono _ _ _ _ _
   | exact grammar_Least.mono _ _ _ _ _ _
   | exact LeO.none _
   | refine LeO.ite ?_ ?_
   | refine LeO.bind ?_ (fun _=>?_)
def ahead_Follow.T5 : Bool × List (List Nat × List Nat):=(true,[([],[]),([],[]),([],[]),([1,2],[1,2]),([],[]),([0,3,4,3],[0,3,4]),([5,5,0,1,2,3,4,5],[5]),([6,0,1,2,3,4,5,6],[])])
def ahead_Follow.B5 : List Nat:=[0,0,0,6,0,31,63,127]
theorem ahead_Follow.tab5 : rtab .any (opsOf Try.f30 5) = ahead_Follow.T5:=by kernel_rfl
theorem ahead_Follow.bits5 : waitsOk ahead_Follow.T5.2 ahead_Follow.B5 = true:=by kernel_rfl
set_option maxHeartbeats 8000000 in
set_option maxRecDepth 100000 in
theorem ahead_Follow.calls (k : Nat) (a0_0 : Int) (a0_1 : Int) (a0_2 : Int) (A0_3 : Option Addr) (c0_3 : Nat) (l0_3 : List (S27)) (r1 : List Int) (r2 : Int) (w : World) (hr0_3 : Kd.C k27 w A0_3 l0_3.length l0_3) (hc0_3 : l0_3.length ≤ c0_3) (h : ahead_Follow.f k a0_0 a0_1 a0_2 l0_3 = some (r1,r2)) :
  Calls Try.prog 30 #[.agg #[.int .i64 a0_0,.int .i64 a0_1,.int .i64 a0_2,.slice A0_3 l0_3.length c0_3]] w fun e w'=>∃ v0_ : Value,e = .returned (.tuple #[v0_,.int .i64 r2]) ∧ Kd.R (Kd.int .u32) 28 w' w.heap.size (fun _=>True) v0_ r1 ∧ Below w.heap.size w w':=by
 have hu24:=Try.underlying24
 have HR0_3:=Aside0.mk hr0_3
 have HC0_3:=Aside0.mk hc0_3
 clear hr0_3 hc0_3
 have HB:=Aside0.mk (Below.refl w.heap.size w)
 have H : ((grammar_Check.f k a0_0 a0_1 a0_2 l0_3).bind fun t221=>(if t221 = 0 then ((grammar_Least.f k a0_0 a0_1 a0_2 l0_3 false).bind fun t222=>((ahead_firsts.f k a0_0 a0_1 a0_2 l0_3 t222).bind fun t223=>((ahead_follows.f k a0_0 a0_1 a0_2 l0_3 t223 t222).bind fun t226=>(some (t226,0))))) else (some (([] : List Int),t221)))) = some (r1,r2):=h
 clear h
 replace H:=Option.bind_eq_some_iff.mp H
 obtain ⟨t221,A20,H⟩:=H
 replace H : (if t221 = 0 then ((grammar_Least.f k a0_0 a0_1 a0_2 l0_3 false).bind fun t222=>((ahead_firsts.f k a0_0 a0_1 a0_2 l0_3 t222).bind fun t223=>((ahead_follows.f k a0_0 a0_1 a0_2 l0_3 t223 t222).bind fun t226=>(some (t226,0))))) else (some (([] : List Int),t221))) = some (r1,r2):=H
 have A2:=Aside0.mk A20
 clear A20
 by_cases c3 : t221 = 0
 ·rw [if_pos c3] at H
  have c3b0 : (t221 == 0) = true:=beq_iff_eq.mpr c3
  have c3b1 : (t221 != 0) = false:=bne_eq_false_iff_eq.mpr c3
  clear c3
  replace H:=Option.bind_eq_some_iff.mp H
  obtain ⟨t222,A40,H⟩:=H
  replace H : ((ahead_firsts.f k a0_0 a0_1 a0_2 l0_3 t222).bind fun t223=>((ahead_follows.f k a0_0 a0_1 a0_2 l0_3 t223 t222).bind fun t226=>(some (t226,0)))) = some (r1,r2):=H
  have A4:=Aside0.mk A40
  clear A40
  replace H:=Option.bind_eq_some_iff.mp H
  obtain ⟨t223,A50,H⟩:=H
  replace H : ((ahead_follows.f k a0_0 a0_1 a0_2 l0_3 t223 t222).bind fun t226=>(some (t226,0))) = some (r1,r2):=H
  have A5:=Aside0.mk A50
  clear A50
  replace H:=Option.bind_eq_some_iff.mp H
  obtain ⟨t226,A60,H⟩:=H
  replace H : (some (t226,0)) = some (r1,r2):=H
  have A6:=Aside0.mk A60
  clear A60
  simp only [Option.some.injEq,Prod.mk.injEq] at H
  obtain ⟨rfl,rfl⟩:=H
  go_enter Try.func30,Try.ntmps30
  try go_wp2_with (first|((with_reducible refine gate_dst (N:=1) rfl ?_);refine box_event ?hg (N:=1) ?hd (cs:=#[.int .i64 a0_0,.int .i64 a0_1,.int .i64 a0_2,.slice A0_3 l0_3.length c0_3]) (t:=24) ?hr ?_;(case hd=>rfl);(case hg=>rfl);(case hr=>first|(go_simp;done)|(go_simp;rfl));intro gb220 hg w7 hbox hb;have n0_:=Aside0.mk (below_step (by repeat (first|(with_reducible first|exact HB.out|apply below_alloc|apply pw_below_drewN|apply below_drew1)|exact HB.out)) hb);have n1_:=Aside0.mk (hbox);have n2_:=Aside0.mk ((by rw [hg];exact (below_size (by repeat (first|(with_reducible first|exact HB.out|apply below_alloc|apply pw_below_drewN|apply below_drew1)|exact HB.out))) : w.heap.size ≤ gb220));have n3_:=Aside0.mk ((by rw [hg];exact (below_size (by repeat (first|(with_reducible first|exact HB.out|apply below_alloc|apply pw_below_drewN|apply below_drew1)|exact HB.out))) : w.heap.size ≤ gb220));clear HB;have HB:=n0_;have BK220:=n1_;have GW220:=n2_;have GE220:=n3_;clear n0_ n1_ n2_ n3_;clear hb hbox hg;have hcz8_0 : w7.cell? ⟨gb220,0,none⟩ = some (.int .i64 a0_0):=(blk_cell BK220.out 0).trans rfl;have hcz8_1 : w7.cell? ⟨gb220,1,none⟩ = some (.int .i64 a0_1):=(blk_cell BK220.out 1).trans rfl;have hcz8_2 : w7.cell? ⟨gb220,2,none⟩ = some (.int .i64 a0_2):=(blk_cell BK220.out 2).trans rfl;have hcz8_3 : w7.cell? ⟨gb220,3,none⟩ = some (.slice A0_3 l0_3.length c0_3):=(blk_cell BK220.out 3).trans rfl;have hfz8_0:=blk_frozen BK220.out 0;have hfz8_1:=blk_frozen BK220.out 1;have hfz8_2:=blk_frozen BK220.out 2;have hfz8_3:=blk_frozen BK220.out 3)|((with_reducible refine gate_callee (f:=40) rfl ?_);refine goesL_ (some 7) rfl rfl Try.func40 (by kernel_rfl) rfl #[.agg #[.int .i64 a0_0,.int .i64 a0_1,.int .i64 a0_2,.slice A0_3 l0_3.length c0_3]] rfl (by (try simp only [List.map_toArray,List.map_cons,List.map_nil]);first|done|rfl|(simp only [List.length_drop,List.length_take];rfl)) ?_;(with_reducible refine (grammar_Check.calls k a0_0 a0_1 a0_2 _ _ l0_3 t221 _ ?side1 ?side2 A2.out).mono ?_);(case side1=>repeat (first|exact (Kd.C_below HR0_3.out HB.out)|(with_reducible refine Kd.C_alloc ?_ _)|(with_reducible refine Kd.C_drewN ?_ _)|(with_reducible refine Kd.C_drew ?_)));(case side2=>exact HC0_3.out);rintro e w9 ⟨rfl,hb⟩;refine ⟨_,rfl,?_⟩;have n0_:=Aside0.mk (blk_below (g:=gb220) (o:=.cells #[.int .i64 a0_0,.int .i64 a0_1,.int .i64 a0_2,.slice A0_3 l0_3.length c0_3] 24 (0,0)) (by (with_reducible repeat (first|refine blk_drewN ?_ _|refine blk_drew ?_|refine blk_alloc ?_ _));exact BK220.out) hb);have n1_:=Aside0.mk (below_step (by repeat (first|(with_reducible first|exact HB.out|apply below_alloc|apply pw_below_drewN|apply below_drew1|refine below_set ?_ GE220.out)|exact HB.out)) hb);clear BK220;clear HB;have BK220:=n0_;have HB:=n1_;clear n0_ n1_;(try clear hb);(try clear hb2);(try clear hk);(try clear hi);have hcz10_0 : w9.cell? ⟨gb220,0,none⟩ = some (.int .i64 a0_0):=(blk_cell BK220.out 0).trans rfl;have hcz10_1 : w9.cell? ⟨gb220,1,none⟩ = some (.int .i64 a0_1):=(blk_cell BK220.out 1).trans rfl;have hcz10_2 : w9.cell? ⟨gb220,2,none⟩ = some (.int .i64 a0_2):=(blk_cell BK220.out 2).trans rfl;have hcz10_3 : w9.cell? ⟨gb220,3,none⟩ = some (.slice A0_3 l0_3.length c0_3):=(blk_cell BK220.out 3).trans rfl;have hfz10_0:=blk_frozen BK220.out 0;have hfz10_1:=blk_frozen BK220.out 1;have hfz10_2:=blk_frozen BK220.out 2;have hfz10_3:=blk_frozen BK220.out 3)|((with_reducible refine gate_callee (f:=41) rfl ?_);refine goesL_ (some 12) rfl rfl Try.func41 (by kernel_rfl) rfl #[.agg #[.int .i64 a0_0,.int .i64 a0_1,.int .i64 a0_2,.slice A0_3 l0_3.length c0_3],.bool false] rfl (by (try simp only [List.map_toArray,List.map_cons,List.map_nil]);first|done|rfl|(simp only [List.length_drop,List.length_take];rfl)) ?_;(with_reducible refine (grammar_Least.calls k a0_0 a0_1 a0_2 _ _ l0_3 false t222 _ ?side1 ?side2 A4.out).mono ?_);(case side1=>repeat (first|exact (Kd.C_below HR0_3.out HB.out)|(with_reducible refine Kd.C_alloc ?_ _)|(with_reducible refine Kd.C_drewN ?_ _)|(with_reducible refine Kd.C_drew ?_)));(case side2=>exact HC0_3.out);rintro e w11 ⟨rfl,hb⟩;refine ⟨_,rfl,?_⟩;have n0_:=Aside0.mk (blk_below (g:=gb220) (o:=.cells #[.int .i64 a0_0,.int .i64 a0_1,.int .i64 a0_2,.slice A0_3 l0_3.length c0_3] 24 (0,0)) (by (with_reducible repeat (first|refine blk_drewN ?_ _|refine blk_drew ?_|refine blk_alloc ?_ _));exact BK220.out) hb);have n1_:=Aside0.mk (below_step (by repeat (first|(with_reducible first|exact HB.out|apply below_alloc|apply pw_below_drewN|apply below_drew1|refine below_set ?_ GE220.out)|exact HB.out)) hb);clear BK220;clear HB;have BK220:=n0_;have HB:=n1_;clear n0_ n1_;(try clear hb);(try clear hb2);(try clear hk);(try clear hi)))
  have n0_:=Aside0.mk (blk_drew BK220.out)
  have n1_:=Aside0.mk (below_drew1 HB.out)
  clear BK220
  clear HB
  have BK220:=n0_
  have HB:=n1_
  clear n0_ n1_
  refine start_ (n:=8) (S:=fun w'=>w'.cell? ⟨gb220,0,none⟩ = some (.int .i64 a0_0) ∧ w'.cell? ⟨gb220,1,none⟩ = some (.int .i64 a0_1) ∧ w'.cell? ⟨gb220,2,none⟩ = some (.int .i64 a0_2) ∧ w'.cell? ⟨gb220,3,none⟩ = some (.slice A0_3 l0_3.length c0_3)) (ds:=[]) #[false,false,false,false,false,false,false,false] (by kernel_rfl) rfl rfl ⟨(blk_cell BK220.out 0).trans rfl,(blk_cell BK220.out 1).trans rfl,(blk_cell BK220.out 2).trans rfl,(blk_cell BK220.out 3).trans rfl⟩ (fun hHeld=>?_);refine with_tabW ahead_Follow.tab5 ahead_Follow.bits5 (fun HT_ HW_=>?_)
  generalize w11.drew = w12 at BK220 HB hHeld ⊢
  refine pure_ (i:=2) (N:=some 15) (v:=?_) (a':=?_) #[false,false,true,false,false,false,false,false] rfl rfl (any_of HT_.out (by kernel_rfl)) (fun _ _ _ h=>h) (Or.inl ⟨by rfl,?_⟩) ?_ ?_
  rotate_left
  ·intro w'
   go_simp
   with_reducible rfl
  rotate_left
  ·simp only [Act.put,List.setIfInBounds_toArray,List.set_cons_zero,List.set_cons_succ,i64_w,i32_w]
   rfl
  refine pure_ (i:=4) (N:=some 17) (v:=?_) (a':=?_) #[false,false,true,false,true,false,false,false] rfl rfl (any_of HT_.out (by kernel_rfl)) (fun _ _ _ h=>h) (Or.inl ⟨by rfl,?_⟩) ?_ ?_
  rotate_left
  ·intro w'
   go_simp
   with_reducible rfl
  rotate_left
  ·simp only [Act.put,List.setIfInBounds_toArray,List.set_cons_zero,List.set_cons_succ,i64_w,i32_w]
   rfl
  refine take_ (i:=0) (N:=some 13) (v:=?_) (a':=?_) #[true,false,true,false,true,false,false,false] rfl rfl (take_ofW HT_.out HW_.out (by kernel_rfl)) (fun _ _ _ h=>h) (Or.inl ⟨by rfl,?_⟩) hHeld ?_ ?_
  rotate_left
  ·rintro w' ⟨s0,s1,s2,s3⟩
   go_simp
   with_reducible rfl
  rotate_left
  ·simp only [Act.put,List.setIfInBounds_toArray,List.set_cons_zero,List.set_cons_succ,i64_w,i32_w]
   rfl
  refine take_ (i:=1) (N:=some 14) (v:=?_) (a':=?_) #[true,true,true,false,true,false,false,false] rfl rfl (take_ofW HT_.out HW_.out (by kernel_rfl)) (fun _ _ _ h=>h) (Or.inl ⟨by rfl,?_⟩) hHeld ?_ ?_
  rotate_left
  ·rintro w' ⟨s0,s1,s2,s3⟩
   go_simp
   with_reducible rfl
  rotate_left
  ·simp only [Act.put,List.setIfInBounds_toArray,List.set_cons_zero,List.set_cons_succ,i64_w,i32_w]
   rfl
  refine one_ (i:=3) (N:=some 16) #[true,true,true,true,true,false,false,false] rfl rfl (one_of HT_.out (by kernel_rfl)) (by decide) (fun K hK=>?_)
  refine goes_ Try.func51 (by kernel_rfl) rfl #[.agg #[.int .i64 a0_0,.int .i64 a0_1,.int .i64 a0_2,.slice A0_3 l0_3.length c0_3],.int .u32 t222] (by rfl) rfl rfl (by (try simp only [List.map_toArray,List.map_cons,List.map_nil]);first|done|rfl|(simp only [List.length_drop,List.length_take];rfl)) ?_
  with_reducible refine (ahead_firsts.calls k a0_0 a0_1 a0_2 _ _ l0_3 t222 t223 _ ?side1 ?side2 A5.out).mono ?_
  (case side1=>repeat (first|exact (Kd.C_below HR0_3.out HB.out)|(with_reducible refine Kd.C_alloc ?_ _)|(with_reducible refine Kd.C_drewN ?_ _)|(with_reducible refine Kd.C_drew ?_)))
  (case side2=>exact HC0_3.out)
  rintro e w13 ⟨v224,rfl,ho0,hb⟩
  refine ⟨_,rfl,?_⟩
  have n0_:=Aside0.mk (Kd.R_lower ho0 (below_size (by repeat (first|(with_reducible first|exact HB.out|apply below_alloc|apply pw_below_drewN|apply below_drew1|refine below_set ?_ GE220.out)|exact HB.out))))
  have n1_:=Aside0.mk (blk_below (g:=gb220) (o:=.cells #[.int .i64 a0_0,.int .i64 a0_1,.int .i64 a0_2,.slice A0_3 l0_3.length c0_3] 24 (0,0)) (by (with_reducible repeat (first|refine blk_drewN ?_ _|refine blk_drew ?_|refine blk_alloc ?_ _));exact BK220.out) hb)
  have n2_:=Aside0.mk (below_step (by repeat (first|(with_reducible first|exact HB.out|apply below_alloc|apply pw_below_drewN|apply below_drew1|refine below_set ?_ GE220.out)|exact HB.out)) hb)
  clear BK220
  clear HB
  have HO225:=n0_
  have BK220:=n1_
  have HB:=n2_
  clear n0_ n1_ n2_
  (try clear hb)
  (try clear hb2)
  (try clear hk)
  (try clear hi)
  (try clear ho0)
  obtain ⟨Ao14,co14,eo14⟩:=Kd.R_slice HO225.out
  (first|subst eo14|(injection eo14 with f1_ f2_ f3_;have f4_:=f1_.symm;have f5_:=f3_.symm;clear f1_ f2_ f3_;subst f4_;subst f5_))
  refine hK.out _ _ ⟨(blk_cell BK220.out 0).trans rfl,(blk_cell BK220.out 1).trans rfl,(blk_cell BK220.out 2).trans rfl,(blk_cell BK220.out 3).trans rfl⟩ (fun hHeld=>?_)
  clear hK K
  refine norm_ (a':=?_) ?_ ?_
  rotate_left
  ·show Act.put _ (some 16) _ = _
   simp only [Act.put,List.setIfInBounds_toArray,List.set_cons_zero,List.set_cons_succ,i64_w,i32_w]
   rfl
  refine one_ (i:=5) (N:=some 18) #[true,true,true,true,true,true,false,false] rfl rfl (one_of HT_.out (by kernel_rfl)) (by decide) (fun K hK=>?_)
  refine goes_ Try.func52 (by kernel_rfl) rfl #[.agg #[.int .i64 a0_0,.int .i64 a0_1,.int .i64 a0_2,.slice A0_3 l0_3.length c0_3],.slice Ao14 t223.length co14,.int .u32 t222] (by rfl) rfl rfl (by (try simp only [List.map_toArray,List.map_cons,List.map_nil]);first|done|rfl|(simp only [List.length_drop,List.length_take];rfl)) ?_
  with_reducible refine (ahead_follows.calls k a0_0 a0_1 a0_2 _ _ l0_3 _ _ t223 t222 t226 _ ?side1 ?side2 ?side3 ?side4 A6.out).mono ?_
  (case side1=>repeat (first|exact (Kd.C_below HR0_3.out HB.out)|(with_reducible refine Kd.C_alloc ?_ _)|(with_reducible refine Kd.C_drewN ?_ _)|(with_reducible refine Kd.C_drew ?_)))
  (case side2=>exact HC0_3.out)
  (case side3=>repeat (first|exact (Kd.R_reads' HO225.out).2.2|(with_reducible refine Kd.C_alloc ?_ _)|(with_reducible refine Kd.C_drewN ?_ _)|(with_reducible refine Kd.C_drew ?_)))
  (case side4=>exact (Kd.R_reads' HO225.out).2.1)
  rintro e w15 ⟨v227,rfl,ho0,hb⟩
  refine ⟨_,rfl,?_⟩
  have n0_:=Aside0.mk (Kd.R_elder' (by (with_reducible repeat (first|apply Kd.R_alloc|apply Kd.R_drewN|apply Kd.R_drew));exact HO225.out) (Kd.R_base ho0) hb)
  have n1_:=Aside0.mk (Kd.R_lower (Kd.R_new' ho0 (Kd.R_lt (by (with_reducible repeat (first|apply Kd.R_alloc|apply Kd.R_drewN|apply Kd.R_drew));exact HO225.out))) (below_size (by repeat (first|(with_reducible first|exact HB.out|apply below_alloc|apply pw_below_drewN|apply below_drew1|refine below_set ?_ GE220.out)|exact HB.out))))
  have n2_:=Aside0.mk (blk_below (g:=gb220) (o:=.cells #[.int .i64 a0_0,.int .i64 a0_1,.int .i64 a0_2,.slice A0_3 l0_3.length c0_3] 24 (0,0)) (by (with_reducible repeat (first|refine blk_drewN ?_ _|refine blk_drew ?_|refine blk_alloc ?_ _));exact BK220.out) hb)
  have n3_:=Aside0.mk (below_step (by repeat (first|(with_reducible first|exact HB.out|apply below_alloc|apply pw_below_drewN|apply below_drew1|refine below_set ?_ GE220.out)|exact HB.out)) hb)
  clear HO225
  clear BK220
  clear HB
  have HO225:=n0_
  have HO228:=n1_
  have BK220:=n2_
  have HB:=n3_
  clear n0_ n1_ n2_ n3_
  (try clear hb)
  (try clear hb2)
  (try clear hk)
  (try clear hi)
  (try clear ho0)
  refine hK.out _ _ ⟨(blk_cell BK220.out 0).trans rfl,(blk_cell BK220.out 1).trans rfl,(blk_cell BK220.out 2).trans rfl,(blk_cell BK220.out 3).trans rfl⟩ (fun hHeld=>?_)
  clear hK K
  refine norm_ (a':=?_) ?_ ?_
  rotate_left
  ·show Act.put _ (some 18) _ = _
   simp only [Act.put,List.setIfInBounds_toArray,List.set_cons_zero,List.set_cons_succ,i64_w,i32_w]
   rfl
  refine pure_ (i:=6) (N:=some 2) (v:=?_) (a':=?_) #[true,true,true,true,true,true,true,false] rfl rfl (any_of HT_.out (by kernel_rfl)) (fun _ _ _ h=>h) (Or.inl ⟨by rfl,?_⟩) ?_ ?_
  rotate_left
  ·intro w'
   go_simp
   with_reducible rfl
  rotate_left
  ·simp only [Act.put,List.setIfInBounds_toArray,List.set_cons_zero,List.set_cons_succ,i64_w,i32_w]
   rfl
  refine pure_ (i:=7) (N:=some 3) (v:=?_) (a':=?_) #[true,true,true,true,true,true,true,true] rfl rfl (any_of HT_.out (by kernel_rfl)) (fun _ _ _ h=>h) (Or.inl ⟨by rfl,?_⟩) ?_ ?_
  rotate_left
  ·intro w'
   go_simp
   with_reducible rfl
  rotate_left
  ·simp only [Act.put,List.setIfInBounds_toArray,List.set_cons_zero,List.set_cons_succ,i64_w,i32_w]
   rfl
  refine done_ (done_of HT_.out (by kernel_rfl)) ?_
  try go_wp2
  go_ret2
  exact ⟨_,by first|rfl|(simp [errW_none,errW_some] <;> rfl)|(simp [*,errW_none,errW_some] <;> rfl),by (with_reducible repeat (first|apply Kd.R_alloc|apply Kd.R_drewN|apply Kd.R_drew));exact Kd.R_mono HO228.out (fun _ hk=>trivial),by repeat (first|(with_reducible first|exact HB.out|apply below_alloc|apply pw_below_drewN|apply below_drew1|refine below_set ?_ GE220.out)|exact HB.out)⟩
 ·rw [if_neg c3] at H
  have c3b0 : (t221 == 0) = false:=beq_eq_false_iff_ne.mpr c3
  have c3b1 : (t221 != 0) = true:=bne_iff_ne.mpr c3
  simp only [Option.some.injEq,Prod.mk.injEq] at H
  obtain ⟨rfl,rfl⟩:=H
  go_enter Try.func30,Try.ntmps30
  go_wp2_with (first|((with_reducible refine gate_dst (N:=1) rfl ?_);refine box_event ?hg (N:=1) ?hd (cs:=#[.int .i64 a0_0,.int .i64 a0_1,.int .i64 a0_2,.slice A0_3 l0_3.length c0_3]) (t:=24) ?hr ?_;(case hd=>rfl);(case hg=>rfl);(case hr=>first|(go_simp;done)|(go_simp;rfl));intro gb220 hg w16 hbox hb;have n0_:=Aside0.mk (below_step (by repeat (first|(with_reducible first|exact HB.out|apply below_alloc|apply pw_below_drewN|apply below_drew1)|exact HB.out)) hb);have n1_:=Aside0.mk (hbox);have n2_:=Aside0.mk ((by rw [hg];exact (below_size (by repeat (first|(with_reducible first|exact HB.out|apply below_alloc|apply pw_below_drewN|apply below_drew1)|exact HB.out))) : w.heap.size ≤ gb220));have n3_:=Aside0.mk ((by rw [hg];exact (below_size (by repeat (first|(with_reducible first|exact HB.out|apply below_alloc|apply pw_below_drewN|apply below_drew1)|exact HB.out))) : w.heap.size ≤ gb220));clear HB;have HB:=n0_;have BK220:=n1_;have GW220:=n2_;have GE220:=n3_;clear n0_ n1_ n2_ n3_;clear hb hbox hg;have hcz17_0 : w16.cell? ⟨gb220,0,none⟩ = some (.int .i64 a0_0):=(blk_cell BK220.out 0).trans rfl;have hcz17_1 : w16.cell? ⟨gb220,1,none⟩ = some (.int .i64 a0_1):=(blk_cell BK220.out 1).trans rfl;have hcz17_2 : w16.cell? ⟨gb220,2,none⟩ = some (.int .i64 a0_2):=(blk_cell BK220.out 2).trans rfl;have hcz17_3 : w16.cell? ⟨gb220,3,none⟩ = some (.slice A0_3 l0_3.length c0_3):=(blk_cell BK220.out 3).trans rfl;have hfz17_0:=blk_frozen BK220.out 0;have hfz17_1:=blk_frozen BK220.out 1;have hfz17_2:=blk_frozen BK220.out 2;have hfz17_3:=blk_frozen BK220.out 3)|((with_reducible refine gate_callee (f:=40) rfl ?_);refine goesL_ (some 7) rfl rfl Try.func40 (by kernel_rfl) rfl #[.agg #[.int .i64 a0_0,.int .i64 a0_1,.int .i64 a0_2,.slice A0_3 l0_3.length c0_3]] rfl (by (try simp only [List.map_toArray,List.map_cons,List.map_nil]);first|done|rfl|(simp only [List.length_drop,List.length_take];rfl)) ?_;(with_reducible refine (grammar_Check.calls k a0_0 a0_1 a0_2 _ _ l0_3 t221 _ ?side1 ?side2 A2.out).mono ?_);(case side1=>repeat (first|exact (Kd.C_below HR0_3.out HB.out)|(with_reducible refine Kd.C_alloc ?_ _)|(with_reducible refine Kd.C_drewN ?_ _)|(with_reducible refine Kd.C_drew ?_)));(case side2=>exact HC0_3.out);rintro e w18 ⟨rfl,hb⟩;refine ⟨_,rfl,?_⟩;have n0_:=Aside0.mk (blk_below (g:=gb220) (o:=.cells #[.int .i64 a0_0,.int .i64 a0_1,.int .i64 a0_2,.slice A0_3 l0_3.length c0_3] 24 (0,0)) (by (with_reducible repeat (first|refine blk_drewN ?_ _|refine blk_drew ?_|refine blk_alloc ?_ _));exact BK220.out) hb);have n1_:=Aside0.mk (below_step (by repeat (first|(with_reducible first|exact HB.out|apply below_alloc|apply pw_below_drewN|apply below_drew1|refine below_set ?_ GE220.out)|exact HB.out)) hb);clear BK220;clear HB;have BK220:=n0_;have HB:=n1_;clear n0_ n1_;(try clear hb);(try clear hb2);(try clear hk);(try clear hi)))
  go_ret2
  exact ⟨_,by first|rfl|(simp [errW_none,errW_some] <;> rfl)|(simp [*,errW_none,errW_some] <;> rfl),by first|exact Kd.R_nil _ _ _ _ _|exact Kd.N_nil _ _ _ _ _|exact Kd.V_nil _ _ _ _ _|exact Kd.Q_nil _ _ _ _ _|exact Kd.S_nil _ _ _ _ _,by repeat (first|(with_reducible first|exact HB.out|apply below_alloc|apply pw_below_drewN|apply below_drew1|refine below_set ?_ GE220.out)|exact HB.out)⟩
end Go.Proofs.Ytnkackiocigdoaa.GE
