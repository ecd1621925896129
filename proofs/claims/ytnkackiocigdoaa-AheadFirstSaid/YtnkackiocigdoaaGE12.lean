-- Written by ext.py, a program of this session.
import Derived.Test.YtnkackiocigdoaaGE0
import Derived.Test.YtnkackiocigdoaaGE4
import Derived.Test.YtnkackiocigdoaaGE9
import Derived.Test.YtnkackiocigdoaaGE11
namespace Go.Proofs.Ytnkackiocigdoaa.GE
open Go.RowKit Go.Proofs.YtnkackiocigdoaaW.PrintWords Go.Proofs.YtnkackiocigdoaaW.PrintLast Go.Proofs.YtnkackiocigdoaaW.PrintMore
attribute [local go_sem] max2_int min2_int max_two min_two max_three min_three max_four min_four cellIs_set   -- for this text's walks alone
set_option linter.unusedVariables false
set_option linter.unusedSimpArgs false
/-! ### ahead_First: function 29 -/
def ahead_First.f (k : Nat) (a0_0 : Int) (a0_1 : Int) (a0_2 : Int) (l0_3 : List (S27)) : Option (List Int × Int):=(grammar_Check.f k a0_0 a0_1 a0_2 l0_3).bind fun t186=>(if t186 = 0 then ((grammar_Least.f k a0_0 a0_1 a0_2 l0_3 false).bind fun t187=>((ahead_firsts.f k a0_0 a0_1 a0_2 l0_3 t187).bind fun t188=>(some (t188,0)))) else (some (([] : List Int),t186)))
theorem ahead_First.mono : ∀ a0 a1 a2 a3 k,LeO (ahead_First.f k a0 a1 a2 a3) (ahead_First.f (k + 1) a0 a1 a2 a3):=by
 intro a0 a1 a2 a3 k
 unfold ahead_First.f
 repeat' first
   | (with_reducible exact ahead_firsts.mono _ _ _ _ _ _)
   | (with_reducible exact grammar_Check.mono _ _ _ _ _)
   | (with_reducible exact grammar_Least.mono _ _ _ _ _ _)
   | (with_reducible exact LeO.refl _)
   | (with_reducible exact LeO.none _)
   | (with_reducible refine LeO.ite ?_ ?_)
   | (with_reducible refine LeO.bind ?_ (fun _=>?_))
   | exact ahead_firsts.mono _ _ _ _ _ _
   | exact grammar_Check.mono _ _ _ _ _
   | exact grammar_Least.mono _ _ _ _ _ _
   | exact LeO.none _
   | refine LeO.ite ?_ ?_
   | refine LeO.bind ?_ (fun _=>?_)
set_option maxHeartbeats 8000000 in
set_option maxRecDepth 100000 in
theorem ahead_First.calls (k : Nat) (a0_0 : Int) (a0_1 : Int) (a0_2 : Int) (A0_3 : Option Addr) (c0_3 : Nat) (l0_3 : List (S27)) (r1 : List Int) (r2 : Int) (w : World) (hr0_3 : Kd.C k27 w A0_3 l0_3.length l0_3) (hc0_3 : l0_3.length ≤ c0_3) (h : ahead_First.f k a0_0 a0_1 a0_2 l0_3 = some (r1,r2)) :
  Calls Try.prog 29 #[.agg #[.int .i64 a0_0,.int .i64 a0_1,.int .i64 a0_2,.slice A0_3 l0_3.length c0_3]] w fun e w'=>∃ v0_ : Value,e = .returned (.tuple #[v0_,.int .i64 r2]) ∧ Kd.R (Kd.int .u32) 28 w' w.heap.size (fun _=>True) v0_ r1 ∧ Below w.heap.size w w':=by
 have hu24:=Try.underlying24
 have HR0_3:=Aside0.mk hr0_3
 have HC0_3:=Aside0.mk hc0_3
 clear hr0_3 hc0_3
 have HB:=Aside0.mk (Below.refl w.heap.size w)
 have H : ((grammar_Check.f k a0_0 a0_1 a0_2 l0_3).bind fun t186=>(if t186 = 0 then ((grammar_Least.f k a0_0 a0_1 a0_2 l0_3 false).bind fun t187=>((ahead_firsts.f k a0_0 a0_1 a0_2 l0_3 t187).bind fun t188=>(some (t188,0)))) else (some (([] : List Int),t186)))) = some (r1,r2):=h
 clear h
 replace H:=Option.bind_eq_some_iff.mp H
 obtain ⟨t186,A20,H⟩:=H
 replace H : (if t186 = 0 then ((grammar_Least.f k a0_0 a0_1 a0_2 l0_3 false).bind fun t187=>((ahead_firsts.f k a0_0 a0_1 a0_2 l0_3 t187).bind fun t188=>(some (t188,0)))) else (some (([] : List Int),t186))) = some (r1,r2):=H
 have A2:=Aside0.mk A20
 clear A20
 by_cases c3 : t186 = 0
 ·rw [if_pos c3] at H
  have c3b0 : (t186 == 0) = true:=beq_iff_eq.mpr c3
  have c3b1 : (t186 != 0) = false:=bne_eq_false_iff_eq.mpr c3
  clear c3
  replace H:=Option.bind_eq_some_iff.mp H
  obtain ⟨t187,A40,H⟩:=H
  replace H : ((ahead_firsts.f k a0_0 a0_1 a0_2 l0_3 t187).bind fun t188=>(some (t188,0))) = some (r1,r2):=H
  have A4:=Aside0.mk A40
  clear A40
  replace H:=Option.bind_eq_some_iff.mp H
  obtain ⟨t188,A50,H⟩:=H
  replace H : (some (t188,0)) = some (r1,r2):=H
  have A5:=Aside0.mk A50
  clear A50
  simp only [Option.some.injEq,Prod.mk.injEq] at H
  obtain ⟨rfl,rfl⟩:=H
  go_enter Try.func29,Try.ntmps29
  try go_wp2_with (first|((with_reducible refine gate_dst (N:=1) rfl ?_);refine box_event ?hg (N:=1) ?hd (cs:=#[.int .i64 a0_0,.int .i64 a0_1,.int .i64 a0_2,.slice A0_3 l0_3.length c0_3]) (t:=24) ?hr ?_;(case hd=>rfl);(case hg=>rfl);(case hr=>first|(go_simp;done)|(go_simp;rfl));intro gb185 hg w6 hbox hb;have n0_:=Aside0.mk (below_step (by repeat (first|(with_reducible first|exact HB.out|apply below_alloc|apply pw_below_drewN|apply below_drew1)|exact HB.out)) hb);have n1_:=Aside0.mk (hbox);have n2_:=Aside0.mk ((by rw [hg];exact (below_size (by repeat (first|(with_reducible first|exact HB.out|apply below_alloc|apply pw_below_drewN|apply below_drew1)|exact HB.out))) : w.heap.size ≤ gb185));have n3_:=Aside0.mk ((by rw [hg];exact (below_size (by repeat (first|(with_reducible first|exact HB.out|apply below_alloc|apply pw_below_drewN|apply below_drew1)|exact HB.out))) : w.heap.size ≤ gb185));clear HB;have HB:=n0_;have BK185:=n1_;have GW185:=n2_;have GE185:=n3_;clear n0_ n1_ n2_ n3_;clear hb hbox hg;have hcz7_0 : w6.cell? ⟨gb185,0,none⟩ = some (.int .i64 a0_0):=(blk_cell BK185.out 0).trans rfl;have hcz7_1 : w6.cell? ⟨gb185,1,none⟩ = some (.int .i64 a0_1):=(blk_cell BK185.out 1).trans rfl;have hcz7_2 : w6.cell? ⟨gb185,2,none⟩ = some (.int .i64 a0_2):=(blk_cell BK185.out 2).trans rfl;have hcz7_3 : w6.cell? ⟨gb185,3,none⟩ = some (.slice A0_3 l0_3.length c0_3):=(blk_cell BK185.out 3).trans rfl;have hfz7_0:=blk_frozen BK185.out 0;have hfz7_1:=blk_frozen BK185.out 1;have hfz7_2:=blk_frozen BK185.out 2;have hfz7_3:=blk_frozen BK185.out 3)|((with_reducible refine gate_callee (f:=40) rfl ?_);refine goesL_ (some 6) rfl rfl Try.func40 (by kernel_rfl) rfl #[.agg #[.int .i64 a0_0,.int .i64 a0_1,.int .i64 a0_2,.slice A0_3 l0_3.length c0_3]] rfl (by (try simp only [List.map_toArray,List.map_cons,List.map_nil]);first|done|rfl|(simp only [List.length_drop,List.length_take];rfl)) ?_;(with_reducible refine (grammar_Check.calls k a0_0 a0_1 a0_2 _ _ l0_3 t186 _ ?side1 ?side2 A2.out).mono ?_);(case side1=>repeat (first|exact (Kd.C_below HR0_3.out HB.out)|(with_reducible refine Kd.C_alloc ?_ _)|(with_reducible refine Kd.C_drewN ?_ _)|(with_reducible refine Kd.C_drew ?_)));(case side2=>exact HC0_3.out);rintro e w8 ⟨rfl,hb⟩;refine ⟨_,rfl,?_⟩;have n0_:=Aside0.mk (blk_below (g:=gb185) (o:=.cells #[.int .i64 a0_0,.int .i64 a0_1,.int .i64 a0_2,.slice A0_3 l0_3.length c0_3] 24 (0,0)) (by (with_reducible repeat (first|refine blk_drewN ?_ _|refine blk_drew ?_|refine blk_alloc ?_ _));exact BK185.out) hb);have n1_:=Aside0.mk (below_step (by repeat (first|(with_reducible first|exact HB.out|apply below_alloc|apply pw_below_drewN|apply below_drew1|refine below_set ?_ GE185.out)|exact HB.out)) hb);clear BK185;clear HB;have BK185:=n0_;have HB:=n1_;clear n0_ n1_;(try clear hb);(try clear hb2);(try clear hk);(try clear hi)))
  have n0_:=Aside0.mk (blk_drew BK185.out)
  have n1_:=Aside0.mk (below_drew1 HB.out)
  clear BK185
  clear HB
  have BK185:=n0_
  have HB:=n1_
  clear n0_ n1_
  refine start_ (n:=6) (S:=fun w'=>w'.cell? ⟨gb185,0,none⟩ = some (.int .i64 a0_0) ∧ w'.cell? ⟨gb185,1,none⟩ = some (.int .i64 a0_1) ∧ w'.cell? ⟨gb185,2,none⟩ = some (.int .i64 a0_2) ∧ w'.cell? ⟨gb185,3,none⟩ = some (.slice A0_3 l0_3.length c0_3)) (ds:=[]) #[false,false,false,false,false,false] (by kernel_rfl) rfl rfl ⟨(blk_cell BK185.out 0).trans rfl,(blk_cell BK185.out 1).trans rfl,(blk_cell BK185.out 2).trans rfl,(blk_cell BK185.out 3).trans rfl⟩ (fun hHeld=>?_)
  generalize w8.drew = w9 at BK185 HB hHeld ⊢
  refine take_ (i:=0) (N:=some 10) (v:=?_) (a':=?_) #[true,false,false,false,false,false] rfl rfl (by kernel_rfl) (fun _ _ _ h=>h) (Or.inl ⟨by rfl,?_⟩) hHeld ?_ ?_
  rotate_left
  ·rintro w' ⟨s0,s1,s2,s3⟩
   go_simp
   with_reducible rfl
  rotate_left
  ·simp only [Act.put,List.setIfInBounds_toArray,List.set_cons_zero,List.set_cons_succ,i64_w,i32_w]
   rfl
  refine take_ (i:=1) (N:=some 11) (v:=?_) (a':=?_) #[true,true,false,false,false,false] rfl rfl (by kernel_rfl) (fun _ _ _ h=>h) (Or.inl ⟨by rfl,?_⟩) hHeld ?_ ?_
  rotate_left
  ·rintro w' ⟨s0,s1,s2,s3⟩
   go_simp
   with_reducible rfl
  rotate_left
  ·simp only [Act.put,List.setIfInBounds_toArray,List.set_cons_zero,List.set_cons_succ,i64_w,i32_w]
   rfl
  refine one_ (i:=2) (N:=some 12) #[true,true,true,false,false,false] rfl rfl (by kernel_rfl) (by decide) (fun K hK=>?_)
  refine goes_ Try.func41 (by kernel_rfl) rfl #[.agg #[.int .i64 a0_0,.int .i64 a0_1,.int .i64 a0_2,.slice A0_3 l0_3.length c0_3],.bool false] (by rfl) rfl rfl (by (try simp only [List.map_toArray,List.map_cons,List.map_nil]);first|done|rfl|(simp only [List.length_drop,List.length_take];rfl)) ?_
  with_reducible refine (grammar_Least.calls k a0_0 a0_1 a0_2 _ _ l0_3 false t187 _ ?side1 ?side2 A4.out).mono ?_
  (case side1=>repeat (first|exact (Kd.C_below HR0_3.out HB.out)|(with_reducible refine Kd.C_alloc ?_ _)|(with_reducible refine Kd.C_drewN ?_ _)|(with_reducible refine Kd.C_drew ?_)))
  (case side2=>exact HC0_3.out)
  rintro e w10 ⟨rfl,hb⟩
  refine ⟨_,rfl,?_⟩
  have n0_:=Aside0.mk (blk_below (g:=gb185) (o:=.cells #[.int .i64 a0_0,.int .i64 a0_1,.int .i64 a0_2,.slice A0_3 l0_3.length c0_3] 24 (0,0)) (by (with_reducible repeat (first|refine blk_drewN ?_ _|refine blk_drew ?_|refine blk_alloc ?_ _));exact BK185.out) hb)
  have n1_:=Aside0.mk (below_step (by repeat (first|(with_reducible first|exact HB.out|apply below_alloc|apply pw_below_drewN|apply below_drew1|refine below_set ?_ GE185.out)|exact HB.out)) hb)
  clear BK185
  clear HB
  have BK185:=n0_
  have HB:=n1_
  clear n0_ n1_
  (try clear hb)
  (try clear hb2)
  (try clear hk)
  (try clear hi)
  refine hK.out _ _ ⟨(blk_cell BK185.out 0).trans rfl,(blk_cell BK185.out 1).trans rfl,(blk_cell BK185.out 2).trans rfl,(blk_cell BK185.out 3).trans rfl⟩ (fun hHeld=>?_)
  clear hK K
  refine norm_ (a':=?_) ?_ ?_
  rotate_left
  ·show Act.put _ (some 12) _ = _
   simp only [Act.put,List.setIfInBounds_toArray,List.set_cons_zero,List.set_cons_succ,i64_w,i32_w]
   rfl
  refine one_ (i:=3) (N:=some 13) #[true,true,true,true,false,false] rfl rfl (by kernel_rfl) (by decide) (fun K hK=>?_)
  refine goes_ Try.func51 (by kernel_rfl) rfl #[.agg #[.int .i64 a0_0,.int .i64 a0_1,.int .i64 a0_2,.slice A0_3 l0_3.length c0_3],.int .u32 t187] (by rfl) rfl rfl (by (try simp only [List.map_toArray,List.map_cons,List.map_nil]);first|done|rfl|(simp only [List.length_drop,List.length_take];rfl)) ?_
  with_reducible refine (ahead_firsts.calls k a0_0 a0_1 a0_2 _ _ l0_3 t187 t188 _ ?side1 ?side2 A5.out).mono ?_
  (case side1=>repeat (first|exact (Kd.C_below HR0_3.out HB.out)|(with_reducible refine Kd.C_alloc ?_ _)|(with_reducible refine Kd.C_drewN ?_ _)|(with_reducible refine Kd.C_drew ?_)))
  (case side2=>exact HC0_3.out)
  rintro e w11 ⟨v189,rfl,ho0,hb⟩
  refine ⟨_,rfl,?_⟩
  have n0_:=Aside0.mk (Kd.R_lower ho0 (below_size (by repeat (first|(with_reducible first|exact HB.out|apply below_alloc|apply pw_below_drewN|apply below_drew1|refine below_set ?_ GE185.out)|exact HB.out))))
  have n1_:=Aside0.mk (blk_below (g:=gb185) (o:=.cells #[.int .i64 a0_0,.int .i64 a0_1,.int .i64 a0_2,.slice A0_3 l0_3.length c0_3] 24 (0,0)) (by (with_reducible repeat (first|refine blk_drewN ?_ _|refine blk_drew ?_|refine blk_alloc ?_ _));exact BK185.out) hb)
  have n2_:=Aside0.mk (below_step (by repeat (first|(with_reducible first|exact HB.out|apply below_alloc|apply pw_below_drewN|apply below_drew1|refine below_set ?_ GE185.out)|exact HB.out)) hb)
  clear BK185
  clear HB
  have HO190:=n0_
  have BK185:=n1_
  have HB:=n2_
  clear n0_ n1_ n2_
  (try clear hb)
  (try clear hb2)
  (try clear hk)
  (try clear hi)
  (try clear ho0)
  refine hK.out _ _ ⟨(blk_cell BK185.out 0).trans rfl,(blk_cell BK185.out 1).trans rfl,(blk_cell BK185.out 2).trans rfl,(blk_cell BK185.out 3).trans rfl⟩ (fun hHeld=>?_)
  clear hK K
  refine norm_ (a':=?_) ?_ ?_
  rotate_left
  ·show Act.put _ (some 13) _ = _
   simp only [Act.put,List.setIfInBounds_toArray,List.set_cons_zero,List.set_cons_succ,i64_w,i32_w]
   rfl
  refine pure_ (i:=4) (N:=some 2) (v:=?_) (a':=?_) #[true,true,true,true,true,false] rfl rfl (by kernel_rfl) (fun _ _ _ h=>h) (Or.inl ⟨by rfl,?_⟩) ?_ ?_
  rotate_left
  ·intro w'
   go_simp
   with_reducible rfl
  rotate_left
  ·simp only [Act.put,List.setIfInBounds_toArray,List.set_cons_zero,List.set_cons_succ,i64_w,i32_w]
   rfl
  refine pure_ (i:=5) (N:=some 3) (v:=?_) (a':=?_) #[true,true,true,true,true,true] rfl rfl (by kernel_rfl) (fun _ _ _ h=>h) (Or.inl ⟨by rfl,?_⟩) ?_ ?_
  rotate_left
  ·intro w'
   go_simp
   with_reducible rfl
  rotate_left
  ·simp only [Act.put,List.setIfInBounds_toArray,List.set_cons_zero,List.set_cons_succ,i64_w,i32_w]
   rfl
  refine done_ (by kernel_rfl) ?_
  try go_wp2
  go_ret2
  exact ⟨_,by first|rfl|(simp [errW_none,errW_some] <;> rfl)|(simp [*,errW_none,errW_some] <;> rfl),by (with_reducible repeat (first|apply Kd.R_alloc|apply Kd.R_drewN|apply Kd.R_drew));exact HO190.out,by repeat (first|(with_reducible first|exact HB.out|apply below_alloc|apply pw_below_drewN|apply below_drew1|refine below_set ?_ GE185.out)|exact HB.out)⟩
 ·rw [if_neg c3] at H
  have c3b0 : (t186 == 0) = false:=beq_eq_false_iff_ne.mpr c3
  have c3b1 : (t186 != 0) = true:=bne_iff_ne.mpr c3
  simp only [Option.some.injEq,Prod.mk.injEq] at H
  obtain ⟨rfl,rfl⟩:=H
  go_enter Try.func29,Try.ntmps29
  go_wp2_with (first|((with_reducible refine gate_dst (N:=1) rfl ?_);refine box_event ?hg (N:=1) ?hd (cs:=#[.int .i64 a0_0,.int .i64 a0_1,.int .i64 a0_2,.slice A0_3 l0_3.length c0_3]) (t:=24) ?hr ?_;(case hd=>rfl);(case hg=>rfl);(case hr=>first|(go_simp;done)|(go_simp;rfl));intro gb185 hg w12 hbox hb;have n0_:=Aside0.mk (below_step (by repeat (first|(with_reducible first|exact HB.out|apply below_alloc|apply pw_below_drewN|apply below_drew1)|exact HB.out)) hb);have n1_:=Aside0.mk (hbox);have n2_:=Aside0.mk ((by rw [hg];exact (below_size (by repeat (first|(with_reducible first|exact HB.out|apply below_alloc|apply pw_below_drewN|apply below_drew1)|exact HB.out))) : w.heap.size ≤ gb185));have n3_:=Aside0.mk ((by rw [hg];exact (below_size (by repeat (first|(with_reducible first|exact HB.out|apply below_alloc|apply pw_below_drewN|apply below_drew1)|exact HB.out))) : w.heap.size ≤ gb185));clear HB;have HB:=n0_;have BK185:=n1_;have GW185:=n2_;have GE185:=n3_;clear n0_ n1_ n2_ n3_;clear hb hbox hg;have hcz13_0 : w12.cell? ⟨gb185,0,none⟩ = some (.int .i64 a0_0):=(blk_cell BK185.out 0).trans rfl;have hcz13_1 : w12.cell? ⟨gb185,1,none⟩ = some (.int .i64 a0_1):=(blk_cell BK185.out 1).trans rfl;have hcz13_2 : w12.cell? ⟨gb185,2,none⟩ = some (.int .i64 a0_2):=(blk_cell BK185.out 2).trans rfl;have hcz13_3 : w12.cell? ⟨gb185,3,none⟩ = some (.slice A0_3 l0_3.length c0_3):=(blk_cell BK185.out 3).trans rfl;have hfz13_0:=blk_frozen BK185.out 0;have hfz13_1:=blk_frozen BK185.out 1;have hfz13_2:=blk_frozen BK185.out 2;have hfz13_3:=blk_frozen BK185.out 3)|((with_reducible refine gate_callee (f:=40) rfl ?_);refine goesL_ (some 6) rfl rfl Try.func40 (by kernel_rfl) rfl #[.agg #[.int .i64 a0_0,.int .i64 a0_1,.int .i64 a0_2,.slice A0_3 l0_3.length c0_3]] rfl (by (try simp only [List.map_toArray,List.map_cons,List.map_nil]);first|done|rfl|(simp only [List.length_drop,List.length_take];rfl)) ?_;(with_reducible refine (grammar_Check.calls k a0_0 a0_1 a0_2 _ _ l0_3 t186 _ ?side1 ?side2 A2.out).mono ?_);(case side1=>repeat (first|exact (Kd.C_below HR0_3.out HB.out)|(with_reducible refine Kd.C_alloc ?_ _)|(with_reducible refine Kd.C_drewN ?_ _)|(with_reducible refine Kd.C_drew ?_)));(case side2=>exact HC0_3.out);rintro e w14 ⟨rfl,hb⟩;refine ⟨_,rfl,?_⟩;have n0_:=Aside0.mk (blk_below (g:=gb185) (o:=.cells #[.int .i64 a0_0,.int .i64 a0_1,.int .i64 a0_2,.slice A0_3 l0_3.length c0_3] 24 (0,0)) (by (with_reducible repeat (first|refine blk_drewN ?_ _|refine blk_drew ?_|refine blk_alloc ?_ _));exact BK185.out) hb);have n1_:=Aside0.mk (below_step (by repeat (first|(with_reducible first|exact HB.out|apply below_alloc|apply pw_below_drewN|apply below_drew1|refine below_set ?_ GE185.out)|exact HB.out)) hb);clear BK185;clear HB;have BK185:=n0_;have HB:=n1_;clear n0_ n1_;(try clear hb);(try clear hb2);(try clear hk);(try clear hi)))
  go_ret2
  exact ⟨_,by first|rfl|(simp [errW_none,errW_some] <;> rfl)|(simp [*,errW_none,errW_some] <;> rfl),by first|exact Kd.R_nil _ _ _ _ _|exact Kd.N_nil _ _ _ _ _|exact Kd.V_nil _ _ _ _ _|exact Kd.Q_nil _ _ _ _ _|exact Kd.S_nil _ _ _ _ _,by repeat (first|(with_reducible first|exact HB.out|apply below_alloc|apply pw_below_drewN|apply below_drew1|refine below_set ?_ GE185.out)|exact HB.out)⟩
end Go.Proofs.Ytnkackiocigdoaa.GE
