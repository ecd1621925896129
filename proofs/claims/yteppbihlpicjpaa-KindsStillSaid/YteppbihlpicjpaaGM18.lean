-- Written by ext.py, a program of this session.
import Derived.Test.YteppbihlpicjpaaGM0
import Derived.Test.YteppbihlpicjpaaGM1
import Derived.Test.YteppbihlpicjpaaGM10
import Derived.Test.YteppbihlpicjpaaGM17
namespace Go.Proofs.Yteppbihlpicjpaa.GM
open Go.RowKit Go.Proofs.YteppbihlpicjpaaW.PrintWords Go.Proofs.YteppbihlpicjpaaW.PrintLast Go.Proofs.YteppbihlpicjpaaW.PrintMore
attribute [local go_sem] max2_int min2_int max_two min_two max_three min_three max_four min_four cellIs_set   -- for this text's walks alone
set_option linter.unusedVariables false
set_option linter.unusedSimpArgs false
attribute [local go_sem high] eqA44
/-! ### kinds_Still: function 8 -/
mutual
def kinds_Still.l0 : Nat → List (S44) → Int → Int → Option (Bool × Int)
 | 0,_,_,_=>none
 | k + 1,x4,x18,x19=>if x19 < x18 then (if 0 ≤ x19 then (if x19 < (x4.length : Int) then (kinds_Still.l1 k x4 x18 x19 (x4.length : Int) 0 ((rd_T44 x4 x19).f0) ((rd_T44 x4 x19).f1) ((rd_T44 x4 x19).f2) ((rd_T44 x4 x19).f3) ((rd_T44 x4 x19).f4) ((rd_T44 x4 x19).f5) ((rd_T44 x4 x19).f6) ((rd_T44 x4 x19).f0) ((rd_T44 x4 x19).f1) ((rd_T44 x4 x19).f2) ((rd_T44 x4 x19).f3) ((rd_T44 x4 x19).f4) ((rd_T44 x4 x19).f5) ((rd_T44 x4 x19).f6)) else (none)) else (none)) else (some (true,0))
def kinds_Still.l1 : Nat → List (S44) → Int → Int → Int → Int → Int → Int → Int → Int → Int → Int → Int → Int → Int → Int → Int → Int → Int → Int → Option (Bool × Int)
 | 0,_,_,_,_,_,_,_,_,_,_,_,_,_,_,_,_,_,_,_=>none
 | k + 1,x4,x18,x19,x25,x26,x307000,x307001,x307002,x307003,x307004,x307005,x307006,x308000,x308001,x308002,x308003,x308004,x308005,x308006=>if x26 < x25 then ((kinds_move_then.f x308000 x308001 x308002 x308003 x308004 x308005 x308006 x307000 x307001 x307002 x307003 x307004 x307005 x307006).bind fun bt308=>(kinds_Still.l1 k x4 x18 x19 x25 (wrap64 (x26 + 1)) x307000 x307001 x307002 x307003 x307004 x307005 x307006 bt308.1 bt308.2.1 bt308.2.2.1 bt308.2.2.2.1 bt308.2.2.2.2.1 bt308.2.2.2.2.2.1 bt308.2.2.2.2.2.2)) else ((kinds_move_then.f x308000 x308001 x308002 x308003 x308004 x308005 x308006 x307000 x307001 x307002 x307003 x307004 x307005 x307006).bind fun bt315=>(if (!(bt315.1 == x308000) || (!(bt315.2.1 == x308001) || (!(bt315.2.2.1 == x308002) || (!(bt315.2.2.2.1 == x308003) || (!(bt315.2.2.2.2.1 == x308004) || (!(bt315.2.2.2.2.2.1 == x308005) || (!(bt315.2.2.2.2.2.2 == x308006)))))))) = true then (some (false,0)) else (kinds_Still.l0 k x4 x18 (wrap64 (x19 + 1)))))
end
def kinds_Still.f (k : Nat) (a0_0 : Int) (a0_1 : Int) (l0_2 : List (List Int)) (a0_3 : Int) (a0_4 : Int) : Option (Bool × Int):=(kinds_kinds.f k a0_0 a0_1 l0_2 a0_3 a0_4).bind fun bt301=>(if bt301.2 = 0 then (kinds_Still.l0 k bt301.1 (bt301.1.length : Int) 0) else (some (false,bt301.2)))
theorem kinds_Still.mono_l : ∀ k,(∀ y0 y1 y2,LeO (kinds_Still.l0 k y0 y1 y2) (kinds_Still.l0 (k + 1) y0 y1 y2)) ∧ (∀ y0 y1 y2 y3 y4 y5 y6 y7 y8 y9 y10 y11 y12 y13 y14 y15 y16 y17 y18,LeO (kinds_Still.l1 k y0 y1 y2 y3 y4 y5 y6 y7 y8 y9 y10 y11 y12 y13 y14 y15 y16 y17 y18) (kinds_Still.l1 (k + 1) y0 y1 y2 y3 y4 y5 y6 y7 y8 y9 y10 y11 y12 y13 y14 y15 y16 y17 y18))
 | 0=>⟨fun _ _ _ r h=>by simp [kinds_Still.l0] at h,fun _ _ _ _ _ _ _ _ _ _ _ _ _ _ _ _ _ _ _ r h=>by simp [kinds_Still.l1] at h⟩
 | k + 1=>by
  obtain ⟨ih0,ih1⟩:=kinds_Still.mono_l k
  refine ⟨?_,?_⟩
  ·intro y0 y1 y2
   unfold kinds_Still.l0
   repeat' first
   | (with_reducible exact ih0 _ _ _)
   | (with_reducible exact ih1 _ _ _ _ _ _ _ _ _ _ _ _ _ _ _ _ _ _ _)
   | (with_reducible exact kinds_kinds.mono _ _ _ _ _ _)
   | (with_reducible exact LeO.refl _)
   | (with_reducible exact LeO.none _)
   | (with_reducible refine LeO.ite ?_ ?_)
   | (with_reducible refine LeO.bind ?_ (fun _=>?_))
   | exact ih0 _ _ _
   | exact ih1 _ _ _ _ _ _ _ _ _ _ _ _ _ _ _ _ _ _ _
   | exact kinds_kinds.mono _ _ _ _ _ _
   | exact LeO.none _
   | refine LeO.ite ?_ ?_
   | refine LeO.bind ?_ (fun _=>?_)
  ·intro y0 y1 y2 y3 y4 y5 y6 y7 y8 y9 y10 y11 y12 y13 y14 y15 y16 y17 y18
   unfold kinds_Still.l1
   repeat' first
   | (with_reducible exact ih0 _ _ _)
   | (with_reducible exact ih1 _ _ _ _ _ _ _ _ _ _ _ _ _ _ _ _ _ _ _)
   | (with_reducible exact kinds_kinds.mono _ _ _ _ _ _)
   | (with_reducible exact LeO.refl _)
   | (with_reducible exact LeO.none _)
   | (with_reducible refine LeO.ite ?_ ?_)
   | (with_reducible refine LeO.bind ?_ (fun _=>?_))
   | exact ih0 _ _ _
   | exact ih1 _ _ _ _ _ _ _ _ _ _ _ _ _ _ _ _ _ _ _
   | exact kinds_kinds.mono _ _ _ _ _ _
   | exact LeO.none _
   | refine LeO.ite ?_ ?_
   | refine LeO.bind ?_ (fun _=>?_)
theorem kinds_Still.mono : ∀ a0 a1 a2 a3 a4 k,LeO (kinds_Still.f k a0 a1 a2 a3 a4) (kinds_Still.f (k + 1) a0 a1 a2 a3 a4):=by
 intro a0 a1 a2 a3 a4 k
 obtain ⟨ih0,ih1⟩:=kinds_Still.mono_l k
 unfold kinds_Still.f
 repeat' first
   | (with_reducible exact ih0 _ _ _)
   | (with_reducible exact ih1 _ _ _ _ _ _ _ _ _ _ _ _ _ _ _ _ _ _ _)
   | (with_reducible exact kinds_kinds.mono _ _ _ _ _ _)
   | (with_reducible exact LeO.refl _)
   | (with_reducible exact LeO.none _)
   | (with_reducible refine LeO.ite ?_ ?_)
   | (with_reducible refine LeO.bind ?_ (fun _=>?_))
   | exact ih0 _ _ _
   | exact ih1 _ _ _ _ _ _ _ _ _ _ _ _ _ _ _ _ _ _ _
   | exact kinds_kinds.mono _ _ _ _ _ _
   | exact LeO.none _
   | refine LeO.ite ?_ ?_
   | refine LeO.bind ?_ (fun _=>?_)
theorem qDs18_ {p q : Prop} (H : q) (h : q → p:=by intro h_;(with_reducible repeat (first|refine blk_drewN ?_ _|refine blk_drew ?_|refine blk_alloc ?_ _));exact h_) : p:=h H
theorem qRs18_ {p q : Prop} (H : q) (h : q → p:=by intro h_;(with_reducible repeat (first|apply Kd.R_alloc|apply Kd.R_drewN|apply Kd.R_drew));exact h_) : p:=h H
theorem qBs18_2 {p : Prop} (h : p:=by repeat (first|(with_reducible first|exact HB.out|apply below_alloc|apply pw_below_drewN|apply below_drew1)|exact HB.out)) : p:=h
theorem qBs18_3 {p : Prop} (h : p:=by repeat (first|(with_reducible first|exact HB.out|apply below_alloc|apply pw_below_drewN|apply below_drew1|refine below_set ?_ GE300.out)|exact HB.out)) : p:=h
theorem qBs18_4 {p : Prop} (h : p:=by repeat (first|(with_reducible first|exact HB.out|apply below_alloc|apply pw_below_drewN|apply below_drew1|refine below_set ?_ GE300.out|refine below_set ?_ GE306.out)|exact HB.out)) : p:=h
theorem qBs18_5 {p : Prop} (h : p:=by repeat (first|(with_reducible first|exact HB.out|apply below_alloc|apply pw_below_drewN|apply below_drew1|refine below_set ?_ GE300.out|refine below_set ?_ GE306.out|refine below_set ?_ GE307.out)|exact HB.out)) : p:=h
theorem qAs18_6 {p : Prop} (h : p:=by (try simp only [List.map_toArray,List.map_cons,List.map_nil]);first|done|rfl|(simp only [List.length_drop,List.length_take];rfl)) : p:=h
set_option maxHeartbeats 8000000 in
set_option maxRecDepth 100000 in
theorem kinds_Still.calls (k : Nat) (a0_0 : Int) (a0_1 : Int) (A0_2 : Option Addr) (c0_2 : Nat) (l0_2 : List (List Int)) (a0_3 : Int) (a0_4 : Int) (r1 : Bool) (r2 : Int) (w : World) (hr0_2 : Kd.C (Kd.slice 3 (Kd.int .i64)) w A0_2 l0_2.length l0_2) (hc0_2 : l0_2.length ≤ c0_2) (h : kinds_Still.f k a0_0 a0_1 l0_2 a0_3 a0_4 = some (r1,r2)) :
  Calls Try.prog 8 #[.agg #[.int .i64 a0_0,.int .i64 a0_1,.slice A0_2 l0_2.length c0_2,.int .i64 a0_3,.int .u32 a0_4]] w fun e w'=>e = .returned (.tuple #[.bool r1,.int .i64 r2]) ∧ Below w.heap.size w w':=by
 have hu25:=Try.underlying25
 have hu44:=Try.underlying44
 have HR0_2:=Aside0.mk hr0_2
 have HC0_2:=Aside0.mk hc0_2
 clear hr0_2 hc0_2
 have HB:=Aside0.mk (Below.refl w.heap.size w)
 have H : ((kinds_kinds.f k a0_0 a0_1 l0_2 a0_3 a0_4).bind fun bt301=>(if bt301.2 = 0 then (kinds_Still.l0 k bt301.1 (bt301.1.length : Int) 0) else (some (false,bt301.2)))) = some (r1,r2):=h
 clear h
 replace H:=Option.bind_eq_some_iff.mp H
 obtain ⟨⟨t301,t304⟩,A20,H⟩:=H
 replace H : (if t304 = 0 then (kinds_Still.l0 k t301 (t301.length : Int) 0) else (some (false,t304))) = some (r1,r2):=H
 have A2:=Aside0.mk A20
 clear A20
 by_cases c3 : t304 = 0
 ·rw [if_pos c3] at H
  have c3b0 : (t304 == 0) = true:=beq_iff_eq.mpr c3
  have c3b1 : (t304 != 0) = false:=bne_eq_false_iff_eq.mpr c3
  clear c3
  have H':=Aside0.mk H
  clear H
  go_enter Try.func8,Try.ntmps8
  go_wp2_with (first|((with_reducible refine gate_dst (N:=1) rfl ?_);refine box_event ?hg (N:=1) ?hd (cs:=#[.int .i64 a0_0,.int .i64 a0_1,.slice A0_2 l0_2.length c0_2,.int .i64 a0_3,.int .u32 a0_4]) (t:=25) ?hr ?_;(case hd=>rfl);(case hg=>rfl);(case hr=>first|(go_simp;done)|(go_simp;rfl));intro gb300 hg w4 hbox hb;have n0_:=Aside0.mk (below_step qBs18_2 hb);have n1_:=Aside0.mk (hbox);have n2_:=Aside0.mk ((by rw [hg];exact (below_size qBs18_2) : w.heap.size ≤ gb300));have n3_:=Aside0.mk ((by rw [hg];exact (below_size qBs18_2) : w.heap.size ≤ gb300));clear HB;have HB:=n0_;have BK300:=n1_;have GW300:=n2_;have GE300:=n3_;clear n0_ n1_ n2_ n3_;clear hb hbox hg;have hcz5_0 : w4.cell? ⟨gb300,0,none⟩ = some (.int .i64 a0_0):=(blk_cell BK300.out 0).trans rfl;have hcz5_1 : w4.cell? ⟨gb300,1,none⟩ = some (.int .i64 a0_1):=(blk_cell BK300.out 1).trans rfl;have hcz5_2 : w4.cell? ⟨gb300,2,none⟩ = some (.slice A0_2 l0_2.length c0_2):=(blk_cell BK300.out 2).trans rfl;have hcz5_3 : w4.cell? ⟨gb300,3,none⟩ = some (.int .i64 a0_3):=(blk_cell BK300.out 3).trans rfl;have hcz5_4 : w4.cell? ⟨gb300,4,none⟩ = some (.int .u32 a0_4):=(blk_cell BK300.out 4).trans rfl;have hfz5_0:=blk_frozen BK300.out 0;have hfz5_1:=blk_frozen BK300.out 1;have hfz5_2:=blk_frozen BK300.out 2;have hfz5_3:=blk_frozen BK300.out 3;have hfz5_4:=blk_frozen BK300.out 4)|((with_reducible refine gate_callee (f:=20) rfl ?_);refine goesL_ (some 11) rfl rfl Try.func20 (by kernel_rfl) rfl #[.agg #[.int .i64 a0_0,.int .i64 a0_1,.slice A0_2 l0_2.length c0_2,.int .i64 a0_3,.int .u32 a0_4]] rfl qAs18_6 ?_;(with_reducible refine (kinds_kinds.calls k a0_0 a0_1 _ _ l0_2 a0_3 a0_4 t301 t304 _ ?side1 ?side2 A2.out).mono ?_);(case side1=>repeat (first|exact (Kd.C_below HR0_2.out HB.out)|(with_reducible refine Kd.C_alloc ?_ _)|(with_reducible refine Kd.C_drewN ?_ _)|(with_reducible refine Kd.C_drew ?_)));(case side2=>exact HC0_2.out);rintro e w6 ⟨v302,rfl,ho0,hb⟩;refine ⟨_,rfl,?_⟩;have n0_:=Aside0.mk (Kd.R_lower ho0 (below_size qBs18_3));have n1_:=Aside0.mk (blk_below (g:=gb300) (o:=.cells #[.int .i64 a0_0,.int .i64 a0_1,.slice A0_2 l0_2.length c0_2,.int .i64 a0_3,.int .u32 a0_4] 25 (0,0)) (qDs18_ BK300.out) hb);have n2_:=Aside0.mk (below_step qBs18_3 hb);clear BK300;clear HB;have HO303:=n0_;have BK300:=n1_;have HB:=n2_;clear n0_ n1_ n2_;(try clear hb);(try clear hb2);(try clear hk);(try clear hi);(try clear ho0);obtain ⟨Ao7,co7,eo7⟩:=Kd.R_slice HO303.out;subst eo7))
  go_loopg [19] k (fun kq v19 w'=>∃ (Aa : Int),v19 = .int .i64 Aa ∧ Aside0 (kinds_Still.l0 kq t301 (t301.length : Int) Aa = some (r1,r2)) ∧ Aside0 (kq ≤ k) ∧ Aside0 (Kd.R k44 44 w' w.heap.size (fun _=>True) (.slice Ao7 t301.length co7) t301) ∧ Aside0 (w'.heap[gb300]? = some (.cells #[.int .i64 a0_0,.int .i64 a0_1,(.slice A0_2 l0_2.length c0_2),.int .i64 a0_3,.int .u32 a0_4] 25 (0,0))) ∧ Aside0 (Below w.heap.size w w'))
  case atStart=>exact ⟨(0),(by first|rfl|(simp;done)|(simp [*];done)),H',⟨Nat.le_refl _⟩,⟨by (with_reducible repeat (first|apply Kd.R_alloc|apply Kd.R_drewN|apply Kd.R_drew));exact HO303.out⟩,⟨by (with_reducible repeat (first|refine blk_drewN ?_ _|refine blk_drew ?_|refine blk_alloc ?_ _));exact BK300.out⟩,⟨by repeat (first|(with_reducible first|exact HB.out|apply below_alloc|apply pw_below_drewN|apply below_drew1|refine below_set ?_ GE300.out)|exact HB.out)⟩⟩
  case round =>
   clear H'
   try clear c2
   try clear p2
   try clear c3
   try clear c3b0
   try clear c3b1
   try clear hcz5_0
   try clear hcz5_1
   try clear hcz5_2
   try clear hcz5_3
   try clear hcz5_4
   try clear hfz5_0
   try clear hfz5_1
   try clear hfz5_2
   try clear hfz5_3
   try clear hfz5_4
   obtain ⟨Aa,rfl,HA,HK1,Ap,BK300,HB⟩:=hrel
   cases gk with
   | zero=>exact absurd HA.out (by simp [kinds_Still.l0])
   | succ k1 =>
    have H:=HA.out
    clear HA
    simp only [kinds_Still.l0] at H
    by_cases c8 : Aa < (t301.length : Int)
    ·rw [if_pos c8] at H
     have c8b0 : decide (Aa < (t301.length : Int)) = true:=decide_eq_true c8
     clear c8
     by_cases c9 : 0 ≤ Aa
     ·rw [if_pos c9] at H
      have c9b0 : decide (0 ≤ Aa) = true:=decide_eq_true c9
      clear c9
      by_cases c10 : Aa < (t301.length : Int)
      ·rw [if_pos c10] at H
       have c10b0 : decide (Aa < (t301.length : Int)) = true:=decide_eq_true c10
       clear c10
       have H':=Aside0.mk H
       clear H
       have p305 : 0 ≤ (Aa : Int):=of_decide_eq_true (by first|(with_reducible assumption)|assumption)
       have q305 : Aa < (t301.length : Int):=of_decide_eq_true (by first|(with_reducible assumption)|assumption)
       obtain ⟨ad305,e305,hx305_0,hx305_1,hx305_2,hx305_3,hx305_4,hx305_5,hx305_6⟩:=at_T44 (Kd.R_reads' Ap.out).2.2 Aa p305 q305
       cases e305
       replace p305:=eq_true p305
       replace q305:=eq_true q305
       go_wp2_with (first|((with_reducible refine gate_dst (N:=7) rfl ?_);refine box_event ?hg (N:=7) ?hd (cs:=#[.int .i64 0,.int .i64 0,.int .i64 0,.int .i64 0,.int .i64 0,.int .i64 0,.int .i64 0]) (t:=44) ?hr ?_;(case hd=>rfl);(case hg=>rfl);(case hr=>first|(go_simp;done)|(go_simp;rfl));intro Al hg w11 hbox hb;have n0_:=Aside0.mk (Kd.R_below (Kd.R_elderB (qRs18_ Ap.out) Al (Nat.le_of_eq hg.symm)) hb);have n1_:=Aside0.mk (blk_below (g:=gb300) (o:=.cells #[.int .i64 a0_0,.int .i64 a0_1,.slice A0_2 l0_2.length c0_2,.int .i64 a0_3,.int .u32 a0_4] 25 (0,0)) (qDs18_ BK300.out) hb);have n2_:=Aside0.mk (below_step qBs18_3 hb);have n3_:=Aside0.mk (hbox);have n4_:=Aside0.mk ((by rw [hg];exact (below_size qBs18_3) : w.heap.size ≤ Al));have n5_:=Aside0.mk ((by rw [hg];exact (below_size qBs18_3) : w.heap.size ≤ Al));have n6_:=Aside0.mk ((by rw [hg];exact Nat.ne_of_lt (blk_lt (g:=gb300) (o:=.cells #[.int .i64 a0_0,.int .i64 a0_1,.slice A0_2 l0_2.length c0_2,.int .i64 a0_3,.int .u32 a0_4] 25 (0,0)) (qDs18_ BK300.out)) : gb300 ≠ Al));have n7_:=Aside0.mk ((by rw [hg];exact Nat.ne_of_gt (blk_lt (g:=gb300) (o:=.cells #[.int .i64 a0_0,.int .i64 a0_1,.slice A0_2 l0_2.length c0_2,.int .i64 a0_3,.int .u32 a0_4] 25 (0,0)) (qDs18_ BK300.out)) : Al ≠ gb300));clear Ap;clear BK300;clear HB;have Ap:=n0_;have BK300:=n1_;have HB:=n2_;have Ac:=n3_;have GW306:=n4_;have GE306:=n5_;have Ai:=n6_;have As:=n7_;clear n0_ n1_ n2_ n3_ n4_ n5_ n6_ n7_;clear hb hbox hg;have hnb12:=As.out;have hnc12:=Ai.out;have hcz13_0 : w11.cell? ⟨Al,0,none⟩ = some (.int .i64 0):=(blk_cell Ac.out 0).trans rfl;have hcz13_1 : w11.cell? ⟨Al,1,none⟩ = some (.int .i64 0):=(blk_cell Ac.out 1).trans rfl;have hcz13_2 : w11.cell? ⟨Al,2,none⟩ = some (.int .i64 0):=(blk_cell Ac.out 2).trans rfl;have hcz13_3 : w11.cell? ⟨Al,3,none⟩ = some (.int .i64 0):=(blk_cell Ac.out 3).trans rfl;have hcz13_4 : w11.cell? ⟨Al,4,none⟩ = some (.int .i64 0):=(blk_cell Ac.out 4).trans rfl;have hcz13_5 : w11.cell? ⟨Al,5,none⟩ = some (.int .i64 0):=(blk_cell Ac.out 5).trans rfl;have hcz13_6 : w11.cell? ⟨Al,6,none⟩ = some (.int .i64 0):=(blk_cell Ac.out 6).trans rfl;have hfz13_0:=blk_frozen Ac.out 0;have hfz13_1:=blk_frozen Ac.out 1;have hfz13_2:=blk_frozen Ac.out 2;have hfz13_3:=blk_frozen Ac.out 3;have hfz13_4:=blk_frozen Ac.out 4;have hfz13_5:=blk_frozen Ac.out 5;have hfz13_6:=blk_frozen Ac.out 6)|((with_reducible refine gate_dst (N:=8) rfl ?_);refine box_event ?hg (N:=8) ?hd (cs:=#[.int .i64 0,.int .i64 0,.int .i64 0,.int .i64 0,.int .i64 0,.int .i64 0,.int .i64 0]) (t:=44) ?hr ?_;(case hd=>rfl);(case hg=>rfl);(case hr=>first|(go_simp;done)|(go_simp;rfl));intro Ae hg w14 hbox hb;have n0_:=Aside0.mk (Kd.R_below (Kd.R_elderB (by (with_reducible repeat (first|apply Kd.R_alloc|apply Kd.R_drewN|apply Kd.R_drew));exact (Kd.R_mono (Kd.R_far (p:=⟨Al,6,none⟩) (Kd.R_far (p:=⟨Al,5,none⟩) (Kd.R_far (p:=⟨Al,4,none⟩) (Kd.R_far (p:=⟨Al,3,none⟩) (Kd.R_far (p:=⟨Al,2,none⟩) (Kd.R_far (p:=⟨Al,1,none⟩) (Kd.R_far (p:=⟨Al,0,none⟩) (Kd.R_mono Ap.out (fun k_ hk=>(⟨hk,hk.2⟩ : _ ∧ k_ ≠ Al))) (fun _ hk=>hk.2) (.int .i64 ((rd_T44 t301 Aa).f0))) (fun _ hk=>hk.2) (.int .i64 ((rd_T44 t301 Aa).f1))) (fun _ hk=>hk.2) (.int .i64 ((rd_T44 t301 Aa).f2))) (fun _ hk=>hk.2) (.int .i64 ((rd_T44 t301 Aa).f3))) (fun _ hk=>hk.2) (.int .i64 ((rd_T44 t301 Aa).f4))) (fun _ hk=>hk.2) (.int .i64 ((rd_T44 t301 Aa).f5))) (fun _ hk=>hk.2) (.int .i64 ((rd_T44 t301 Aa).f6))) (fun _ h_=>h_.1))) Ae (Nat.le_of_eq hg.symm)) hb);have n1_:=Aside0.mk (blk_below (g:=gb300) (o:=.cells #[.int .i64 a0_0,.int .i64 a0_1,.slice A0_2 l0_2.length c0_2,.int .i64 a0_3,.int .u32 a0_4] 25 (0,0)) (by (with_reducible repeat (first|refine blk_drewN ?_ _|refine blk_drew ?_|refine blk_alloc ?_ _));refine blk_far ?_ Ai.out _;(with_reducible repeat (first|refine blk_drewN ?_ _|refine blk_drew ?_|refine blk_alloc ?_ _));refine blk_far ?_ Ai.out _;(with_reducible repeat (first|refine blk_drewN ?_ _|refine blk_drew ?_|refine blk_alloc ?_ _));refine blk_far ?_ Ai.out _;(with_reducible repeat (first|refine blk_drewN ?_ _|refine blk_drew ?_|refine blk_alloc ?_ _));refine blk_far ?_ Ai.out _;(with_reducible repeat (first|refine blk_drewN ?_ _|refine blk_drew ?_|refine blk_alloc ?_ _));refine blk_far ?_ Ai.out _;(with_reducible repeat (first|refine blk_drewN ?_ _|refine blk_drew ?_|refine blk_alloc ?_ _));refine blk_far ?_ Ai.out _;(with_reducible repeat (first|refine blk_drewN ?_ _|refine blk_drew ?_|refine blk_alloc ?_ _));refine blk_far ?_ Ai.out _;(with_reducible repeat (first|refine blk_drewN ?_ _|refine blk_drew ?_|refine blk_alloc ?_ _));exact BK300.out) hb);have n2_:=Aside0.mk (blk_below (g:=Al) (o:=.cells #[.int .i64 ((rd_T44 t301 Aa).f0),.int .i64 ((rd_T44 t301 Aa).f1),.int .i64 ((rd_T44 t301 Aa).f2),.int .i64 ((rd_T44 t301 Aa).f3),.int .i64 ((rd_T44 t301 Aa).f4),.int .i64 ((rd_T44 t301 Aa).f5),.int .i64 ((rd_T44 t301 Aa).f6)] 44 (0,0)) (by (with_reducible repeat (first|refine blk_drewN ?_ _|refine blk_drew ?_|refine blk_alloc ?_ _));refine blk_put (cs:=#[.int .i64 ((rd_T44 t301 Aa).f0),.int .i64 ((rd_T44 t301 Aa).f1),.int .i64 ((rd_T44 t301 Aa).f2),.int .i64 ((rd_T44 t301 Aa).f3),.int .i64 ((rd_T44 t301 Aa).f4),.int .i64 ((rd_T44 t301 Aa).f5),.int .i64 0]) ?_ 6 _ rfl;(with_reducible repeat (first|refine blk_drewN ?_ _|refine blk_drew ?_|refine blk_alloc ?_ _));refine blk_put (cs:=#[.int .i64 ((rd_T44 t301 Aa).f0),.int .i64 ((rd_T44 t301 Aa).f1),.int .i64 ((rd_T44 t301 Aa).f2),.int .i64 ((rd_T44 t301 Aa).f3),.int .i64 ((rd_T44 t301 Aa).f4),.int .i64 0,.int .i64 0]) ?_ 5 _ rfl;(with_reducible repeat (first|refine blk_drewN ?_ _|refine blk_drew ?_|refine blk_alloc ?_ _));refine blk_put (cs:=#[.int .i64 ((rd_T44 t301 Aa).f0),.int .i64 ((rd_T44 t301 Aa).f1),.int .i64 ((rd_T44 t301 Aa).f2),.int .i64 ((rd_T44 t301 Aa).f3),.int .i64 0,.int .i64 0,.int .i64 0]) ?_ 4 _ rfl;(with_reducible repeat (first|refine blk_drewN ?_ _|refine blk_drew ?_|refine blk_alloc ?_ _));refine blk_put (cs:=#[.int .i64 ((rd_T44 t301 Aa).f0),.int .i64 ((rd_T44 t301 Aa).f1),.int .i64 ((rd_T44 t301 Aa).f2),.int .i64 0,.int .i64 0,.int .i64 0,.int .i64 0]) ?_ 3 _ rfl;(with_reducible repeat (first|refine blk_drewN ?_ _|refine blk_drew ?_|refine blk_alloc ?_ _));refine blk_put (cs:=#[.int .i64 ((rd_T44 t301 Aa).f0),.int .i64 ((rd_T44 t301 Aa).f1),.int .i64 0,.int .i64 0,.int .i64 0,.int .i64 0,.int .i64 0]) ?_ 2 _ rfl;(with_reducible repeat (first|refine blk_drewN ?_ _|refine blk_drew ?_|refine blk_alloc ?_ _));refine blk_put (cs:=#[.int .i64 ((rd_T44 t301 Aa).f0),.int .i64 0,.int .i64 0,.int .i64 0,.int .i64 0,.int .i64 0,.int .i64 0]) ?_ 1 _ rfl;(with_reducible repeat (first|refine blk_drewN ?_ _|refine blk_drew ?_|refine blk_alloc ?_ _));refine blk_put (cs:=#[.int .i64 0,.int .i64 0,.int .i64 0,.int .i64 0,.int .i64 0,.int .i64 0,.int .i64 0]) ?_ 0 _ rfl;(with_reducible repeat (first|refine blk_drewN ?_ _|refine blk_drew ?_|refine blk_alloc ?_ _));exact Ac.out) hb);have n3_:=Aside0.mk (below_step qBs18_4 hb);have n4_:=Aside0.mk (hbox);have n5_:=Aside0.mk ((by rw [hg];exact (below_size qBs18_4) : w.heap.size ≤ Ae));have n6_:=Aside0.mk ((by rw [hg];exact (below_size qBs18_4) : w.heap.size ≤ Ae));have n7_:=Aside0.mk ((by rw [hg];exact Nat.ne_of_lt (blk_lt (g:=gb300) (o:=.cells #[.int .i64 a0_0,.int .i64 a0_1,.slice A0_2 l0_2.length c0_2,.int .i64 a0_3,.int .u32 a0_4] 25 (0,0)) (by (with_reducible repeat (first|refine blk_drewN ?_ _|refine blk_drew ?_|refine blk_alloc ?_ _));refine blk_far ?_ Ai.out _;(with_reducible repeat (first|refine blk_drewN ?_ _|refine blk_drew ?_|refine blk_alloc ?_ _));refine blk_far ?_ Ai.out _;(with_reducible repeat (first|refine blk_drewN ?_ _|refine blk_drew ?_|refine blk_alloc ?_ _));refine blk_far ?_ Ai.out _;(with_reducible repeat (first|refine blk_drewN ?_ _|refine blk_drew ?_|refine blk_alloc ?_ _));refine blk_far ?_ Ai.out _;(with_reducible repeat (first|refine blk_drewN ?_ _|refine blk_drew ?_|refine blk_alloc ?_ _));refine blk_far ?_ Ai.out _;(with_reducible repeat (first|refine blk_drewN ?_ _|refine blk_drew ?_|refine blk_alloc ?_ _));refine blk_far ?_ Ai.out _;(with_reducible repeat (first|refine blk_drewN ?_ _|refine blk_drew ?_|refine blk_alloc ?_ _));refine blk_far ?_ Ai.out _;(with_reducible repeat (first|refine blk_drewN ?_ _|refine blk_drew ?_|refine blk_alloc ?_ _));exact BK300.out)) : gb300 ≠ Ae));have n8_:=Aside0.mk ((by rw [hg];exact Nat.ne_of_gt (blk_lt (g:=gb300) (o:=.cells #[.int .i64 a0_0,.int .i64 a0_1,.slice A0_2 l0_2.length c0_2,.int .i64 a0_3,.int .u32 a0_4] 25 (0,0)) (by (with_reducible repeat (first|refine blk_drewN ?_ _|refine blk_drew ?_|refine blk_alloc ?_ _));refine blk_far ?_ Ai.out _;(with_reducible repeat (first|refine blk_drewN ?_ _|refine blk_drew ?_|refine blk_alloc ?_ _));refine blk_far ?_ Ai.out _;(with_reducible repeat (first|refine blk_drewN ?_ _|refine blk_drew ?_|refine blk_alloc ?_ _));refine blk_far ?_ Ai.out _;(with_reducible repeat (first|refine blk_drewN ?_ _|refine blk_drew ?_|refine blk_alloc ?_ _));refine blk_far ?_ Ai.out _;(with_reducible repeat (first|refine blk_drewN ?_ _|refine blk_drew ?_|refine blk_alloc ?_ _));refine blk_far ?_ Ai.out _;(with_reducible repeat (first|refine blk_drewN ?_ _|refine blk_drew ?_|refine blk_alloc ?_ _));refine blk_far ?_ Ai.out _;(with_reducible repeat (first|refine blk_drewN ?_ _|refine blk_drew ?_|refine blk_alloc ?_ _));refine blk_far ?_ Ai.out _;(with_reducible repeat (first|refine blk_drewN ?_ _|refine blk_drew ?_|refine blk_alloc ?_ _));exact BK300.out)) : Ae ≠ gb300));have n9_:=Aside0.mk ((by rw [hg];exact Nat.ne_of_lt (blk_lt (g:=Al) (o:=.cells #[.int .i64 ((rd_T44 t301 Aa).f0),.int .i64 ((rd_T44 t301 Aa).f1),.int .i64 ((rd_T44 t301 Aa).f2),.int .i64 ((rd_T44 t301 Aa).f3),.int .i64 ((rd_T44 t301 Aa).f4),.int .i64 ((rd_T44 t301 Aa).f5),.int .i64 ((rd_T44 t301 Aa).f6)] 44 (0,0)) (by (with_reducible repeat (first|refine blk_drewN ?_ _|refine blk_drew ?_|refine blk_alloc ?_ _));refine blk_put (cs:=#[.int .i64 ((rd_T44 t301 Aa).f0),.int .i64 ((rd_T44 t301 Aa).f1),.int .i64 ((rd_T44 t301 Aa).f2),.int .i64 ((rd_T44 t301 Aa).f3),.int .i64 ((rd_T44 t301 Aa).f4),.int .i64 ((rd_T44 t301 Aa).f5),.int .i64 0]) ?_ 6 _ rfl;(with_reducible repeat (first|refine blk_drewN ?_ _|refine blk_drew ?_|refine blk_alloc ?_ _));refine blk_put (cs:=#[.int .i64 ((rd_T44 t301 Aa).f0),.int .i64 ((rd_T44 t301 Aa).f1),.int .i64 ((rd_T44 t301 Aa).f2),.int .i64 ((rd_T44 t301 Aa).f3),.int .i64 ((rd_T44 t301 Aa).f4),.int .i64 0,.int .i64 0]) ?_ 5 _ rfl;(with_reducible repeat (first|refine blk_drewN ?_ _|refine blk_drew ?_|refine blk_alloc ?_ _));refine blk_put (cs:=#[.int .i64 ((rd_T44 t301 Aa).f0),.int .i64 ((rd_T44 t301 Aa).f1),.int .i64 ((rd_T44 t301 Aa).f2),.int .i64 ((rd_T44 t301 Aa).f3),.int .i64 0,.int .i64 0,.int .i64 0]) ?_ 4 _ rfl;(with_reducible repeat (first|refine blk_drewN ?_ _|refine blk_drew ?_|refine blk_alloc ?_ _));refine blk_put (cs:=#[.int .i64 ((rd_T44 t301 Aa).f0),.int .i64 ((rd_T44 t301 Aa).f1),.int .i64 ((rd_T44 t301 Aa).f2),.int .i64 0,.int .i64 0,.int .i64 0,.int .i64 0]) ?_ 3 _ rfl;(with_reducible repeat (first|refine blk_drewN ?_ _|refine blk_drew ?_|refine blk_alloc ?_ _));refine blk_put (cs:=#[.int .i64 ((rd_T44 t301 Aa).f0),.int .i64 ((rd_T44 t301 Aa).f1),.int .i64 0,.int .i64 0,.int .i64 0,.int .i64 0,.int .i64 0]) ?_ 2 _ rfl;(with_reducible repeat (first|refine blk_drewN ?_ _|refine blk_drew ?_|refine blk_alloc ?_ _));refine blk_put (cs:=#[.int .i64 ((rd_T44 t301 Aa).f0),.int .i64 0,.int .i64 0,.int .i64 0,.int .i64 0,.int .i64 0,.int .i64 0]) ?_ 1 _ rfl;(with_reducible repeat (first|refine blk_drewN ?_ _|refine blk_drew ?_|refine blk_alloc ?_ _));refine blk_put (cs:=#[.int .i64 0,.int .i64 0,.int .i64 0,.int .i64 0,.int .i64 0,.int .i64 0,.int .i64 0]) ?_ 0 _ rfl;(with_reducible repeat (first|refine blk_drewN ?_ _|refine blk_drew ?_|refine blk_alloc ?_ _));exact Ac.out)) : Al ≠ Ae));have n10_:=Aside0.mk ((by rw [hg];exact Nat.ne_of_gt (blk_lt (g:=Al) (o:=.cells #[.int .i64 ((rd_T44 t301 Aa).f0),.int .i64 ((rd_T44 t301 Aa).f1),.int .i64 ((rd_T44 t301 Aa).f2),.int .i64 ((rd_T44 t301 Aa).f3),.int .i64 ((rd_T44 t301 Aa).f4),.int .i64 ((rd_T44 t301 Aa).f5),.int .i64 ((rd_T44 t301 Aa).f6)] 44 (0,0)) (by (with_reducible repeat (first|refine blk_drewN ?_ _|refine blk_drew ?_|refine blk_alloc ?_ _));refine blk_put (cs:=#[.int .i64 ((rd_T44 t301 Aa).f0),.int .i64 ((rd_T44 t301 Aa).f1),.int .i64 ((rd_T44 t301 Aa).f2),.int .i64 ((rd_T44 t301 Aa).f3),.int .i64 ((rd_T44 t301 Aa).f4),.int .i64 ((rd_T44 t301 Aa).f5),.int .i64 0]) ?_ 6 _ rfl;(with_reducible repeat (first|refine blk_drewN ?_ _|refine blk_drew ?_|refine blk_alloc ?_ _));refine blk_put (cs:=#[.int .i64 ((rd_T44 t301 Aa).f0),.int .i64 ((rd_T44 t301 Aa).f1),.int .i64 ((rd_T44 t301 Aa).f2),.int .i64 ((rd_T44 t301 Aa).f3),.int .i64 ((rd_T44 t301 Aa).f4),.int .i64 0,.int .i64 0]) ?_ 5 _ rfl;(with_reducible repeat (first|refine blk_drewN ?_ _|refine blk_drew ?_|refine blk_alloc ?_ _));refine blk_put (cs:=#[.int .i64 ((rd_T44 t301 Aa).f0),.int .i64 ((rd_T44 t301 Aa).f1),.int .i64 ((rd_T44 t301 Aa).f2),.int .i64 ((rd_T44 t301 Aa).f3),.int .i64 0,.int .i64 0,.int .i64 0]) ?_ 4 _ rfl;(with_reducible repeat (first|refine blk_drewN ?_ _|refine blk_drew ?_|refine blk_alloc ?_ _));refine blk_put (cs:=#[.int .i64 ((rd_T44 t301 Aa).f0),.int .i64 ((rd_T44 t301 Aa).f1),.int .i64 ((rd_T44 t301 Aa).f2),.int .i64 0,.int .i64 0,.int .i64 0,.int .i64 0]) ?_ 3 _ rfl;(with_reducible repeat (first|refine blk_drewN ?_ _|refine blk_drew ?_|refine blk_alloc ?_ _));refine blk_put (cs:=#[.int .i64 ((rd_T44 t301 Aa).f0),.int .i64 ((rd_T44 t301 Aa).f1),.int .i64 0,.int .i64 0,.int .i64 0,.int .i64 0,.int .i64 0]) ?_ 2 _ rfl;(with_reducible repeat (first|refine blk_drewN ?_ _|refine blk_drew ?_|refine blk_alloc ?_ _));refine blk_put (cs:=#[.int .i64 ((rd_T44 t301 Aa).f0),.int .i64 0,.int .i64 0,.int .i64 0,.int .i64 0,.int .i64 0,.int .i64 0]) ?_ 1 _ rfl;(with_reducible repeat (first|refine blk_drewN ?_ _|refine blk_drew ?_|refine blk_alloc ?_ _));refine blk_put (cs:=#[.int .i64 0,.int .i64 0,.int .i64 0,.int .i64 0,.int .i64 0,.int .i64 0,.int .i64 0]) ?_ 0 _ rfl;(with_reducible repeat (first|refine blk_drewN ?_ _|refine blk_drew ?_|refine blk_alloc ?_ _));exact Ac.out)) : Ae ≠ Al));clear Ap;clear BK300;clear Ac;clear HB;have Ap:=n0_;have BK300:=n1_;have Ac:=n2_;have HB:=n3_;have Ab:=n4_;have GW307:=n5_;have GE307:=n6_;have An:=n7_;have At:=n8_;have Ao:=n9_;have Au:=n10_;clear n0_ n1_ n2_ n3_ n4_ n5_ n6_ n7_ n8_ n9_ n10_;clear hb hbox hg;have hnb15:=At.out;have hnc15:=An.out;have hnb16:=Au.out;have hnc16:=Ao.out;have hcz17_0 : w14.cell? ⟨Ae,0,none⟩ = some (.int .i64 0):=(blk_cell Ab.out 0).trans rfl;have hcz17_1 : w14.cell? ⟨Ae,1,none⟩ = some (.int .i64 0):=(blk_cell Ab.out 1).trans rfl;have hcz17_2 : w14.cell? ⟨Ae,2,none⟩ = some (.int .i64 0):=(blk_cell Ab.out 2).trans rfl;have hcz17_3 : w14.cell? ⟨Ae,3,none⟩ = some (.int .i64 0):=(blk_cell Ab.out 3).trans rfl;have hcz17_4 : w14.cell? ⟨Ae,4,none⟩ = some (.int .i64 0):=(blk_cell Ab.out 4).trans rfl;have hcz17_5 : w14.cell? ⟨Ae,5,none⟩ = some (.int .i64 0):=(blk_cell Ab.out 5).trans rfl;have hcz17_6 : w14.cell? ⟨Ae,6,none⟩ = some (.int .i64 0):=(blk_cell Ab.out 6).trans rfl;have hfz17_0:=blk_frozen Ab.out 0;have hfz17_1:=blk_frozen Ab.out 1;have hfz17_2:=blk_frozen Ab.out 2;have hfz17_3:=blk_frozen Ab.out 3;have hfz17_4:=blk_frozen Ab.out 4;have hfz17_5:=blk_frozen Ab.out 5;have hfz17_6:=blk_frozen Ab.out 6))
       go_loopg [26] k1 (fun kq v26 w'=>∃ (Aq : Int) (Am : Int) (Ak : Int) (Aj : Int) (Ah : Int) (Ag : Int) (Af : Int) (Ad : Int),v26 = .int .i64 Aq ∧ Aside0 (kinds_Still.l1 kq t301 (t301.length : Int) Aa (t301.length : Int) Aq ((rd_T44 t301 Aa).f0) ((rd_T44 t301 Aa).f1) ((rd_T44 t301 Aa).f2) ((rd_T44 t301 Aa).f3) ((rd_T44 t301 Aa).f4) ((rd_T44 t301 Aa).f5) ((rd_T44 t301 Aa).f6) Am Ak Aj Ah Ag Af Ad = some (r1,r2)) ∧ Aside0 (kq ≤ k1) ∧ Aside0 (Kd.R k44 44 w' w.heap.size (fun k_=>k_ ≠ Al ∧ k_ ≠ Ae) (.slice (some ad305) t301.length co7) t301) ∧ Aside0 (w'.heap[gb300]? = some (.cells #[.int .i64 a0_0,.int .i64 a0_1,(.slice A0_2 l0_2.length c0_2),.int .i64 a0_3,.int .u32 a0_4] 25 (0,0))) ∧ Aside0 (w'.heap[Al]? = some (.cells #[.int .i64 ((rd_T44 t301 Aa).f0),.int .i64 ((rd_T44 t301 Aa).f1),.int .i64 ((rd_T44 t301 Aa).f2),.int .i64 ((rd_T44 t301 Aa).f3),.int .i64 ((rd_T44 t301 Aa).f4),.int .i64 ((rd_T44 t301 Aa).f5),.int .i64 ((rd_T44 t301 Aa).f6)] 44 (0,0))) ∧ Aside0 (w'.heap[Ae]? = some (.cells #[.int .i64 Am,.int .i64 Ak,.int .i64 Aj,.int .i64 Ah,.int .i64 Ag,.int .i64 Af,.int .i64 Ad] 44 (0,0))) ∧ Aside0 (Below w.heap.size w w'))
       case atStart=>exact ⟨(0),((rd_T44 t301 Aa).f0),((rd_T44 t301 Aa).f1),((rd_T44 t301 Aa).f2),((rd_T44 t301 Aa).f3),((rd_T44 t301 Aa).f4),((rd_T44 t301 Aa).f5),((rd_T44 t301 Aa).f6),(by first|rfl|(simp;done)|(simp [*];done)),H',⟨Nat.le_refl _⟩,⟨by (with_reducible repeat (first|apply Kd.R_alloc|apply Kd.R_drewN|apply Kd.R_drew));exact Kd.R_mono (Kd.R_far (p:=⟨Ae,6,none⟩) (Kd.R_far (p:=⟨Ae,5,none⟩) (Kd.R_far (p:=⟨Ae,4,none⟩) (Kd.R_far (p:=⟨Ae,3,none⟩) (Kd.R_far (p:=⟨Ae,2,none⟩) (Kd.R_far (p:=⟨Ae,1,none⟩) (Kd.R_far (p:=⟨Ae,0,none⟩) (Kd.R_mono Ap.out (fun k_ hk=>(⟨hk,hk.2⟩ : _ ∧ k_ ≠ Ae))) (fun _ hk=>hk.2) (.int .i64 ((rd_T44 t301 Aa).f0))) (fun _ hk=>hk.2) (.int .i64 ((rd_T44 t301 Aa).f1))) (fun _ hk=>hk.2) (.int .i64 ((rd_T44 t301 Aa).f2))) (fun _ hk=>hk.2) (.int .i64 ((rd_T44 t301 Aa).f3))) (fun _ hk=>hk.2) (.int .i64 ((rd_T44 t301 Aa).f4))) (fun _ hk=>hk.2) (.int .i64 ((rd_T44 t301 Aa).f5))) (fun _ hk=>hk.2) (.int .i64 ((rd_T44 t301 Aa).f6))) (fun _ hk=>⟨hk.1.1.2,hk.1.2⟩)⟩,⟨by (with_reducible repeat (first|refine blk_drewN ?_ _|refine blk_drew ?_|refine blk_alloc ?_ _));refine blk_far ?_ An.out _;(with_reducible repeat (first|refine blk_drewN ?_ _|refine blk_drew ?_|refine blk_alloc ?_ _));refine blk_far ?_ An.out _;(with_reducible repeat (first|refine blk_drewN ?_ _|refine blk_drew ?_|refine blk_alloc ?_ _));refine blk_far ?_ An.out _;(with_reducible repeat (first|refine blk_drewN ?_ _|refine blk_drew ?_|refine blk_alloc ?_ _));refine blk_far ?_ An.out _;(with_reducible repeat (first|refine blk_drewN ?_ _|refine blk_drew ?_|refine blk_alloc ?_ _));refine blk_far ?_ An.out _;(with_reducible repeat (first|refine blk_drewN ?_ _|refine blk_drew ?_|refine blk_alloc ?_ _));refine blk_far ?_ An.out _;(with_reducible repeat (first|refine blk_drewN ?_ _|refine blk_drew ?_|refine blk_alloc ?_ _));refine blk_far ?_ An.out _;(with_reducible repeat (first|refine blk_drewN ?_ _|refine blk_drew ?_|refine blk_alloc ?_ _));exact BK300.out⟩,⟨by (with_reducible repeat (first|refine blk_drewN ?_ _|refine blk_drew ?_|refine blk_alloc ?_ _));refine blk_far ?_ Ao.out _;(with_reducible repeat (first|refine blk_drewN ?_ _|refine blk_drew ?_|refine blk_alloc ?_ _));refine blk_far ?_ Ao.out _;(with_reducible repeat (first|refine blk_drewN ?_ _|refine blk_drew ?_|refine blk_alloc ?_ _));refine blk_far ?_ Ao.out _;(with_reducible repeat (first|refine blk_drewN ?_ _|refine blk_drew ?_|refine blk_alloc ?_ _));refine blk_far ?_ Ao.out _;(with_reducible repeat (first|refine blk_drewN ?_ _|refine blk_drew ?_|refine blk_alloc ?_ _));refine blk_far ?_ Ao.out _;(with_reducible repeat (first|refine blk_drewN ?_ _|refine blk_drew ?_|refine blk_alloc ?_ _));refine blk_far ?_ Ao.out _;(with_reducible repeat (first|refine blk_drewN ?_ _|refine blk_drew ?_|refine blk_alloc ?_ _));refine blk_far ?_ Ao.out _;(with_reducible repeat (first|refine blk_drewN ?_ _|refine blk_drew ?_|refine blk_alloc ?_ _));exact Ac.out⟩,⟨by (with_reducible repeat (first|refine blk_drewN ?_ _|refine blk_drew ?_|refine blk_alloc ?_ _));refine blk_put (cs:=#[.int .i64 ((rd_T44 t301 Aa).f0),.int .i64 ((rd_T44 t301 Aa).f1),.int .i64 ((rd_T44 t301 Aa).f2),.int .i64 ((rd_T44 t301 Aa).f3),.int .i64 ((rd_T44 t301 Aa).f4),.int .i64 ((rd_T44 t301 Aa).f5),.int .i64 0]) ?_ 6 _ rfl;(with_reducible repeat (first|refine blk_drewN ?_ _|refine blk_drew ?_|refine blk_alloc ?_ _));refine blk_put (cs:=#[.int .i64 ((rd_T44 t301 Aa).f0),.int .i64 ((rd_T44 t301 Aa).f1),.int .i64 ((rd_T44 t301 Aa).f2),.int .i64 ((rd_T44 t301 Aa).f3),.int .i64 ((rd_T44 t301 Aa).f4),.int .i64 0,.int .i64 0]) ?_ 5 _ rfl;(with_reducible repeat (first|refine blk_drewN ?_ _|refine blk_drew ?_|refine blk_alloc ?_ _));refine blk_put (cs:=#[.int .i64 ((rd_T44 t301 Aa).f0),.int .i64 ((rd_T44 t301 Aa).f1),.int .i64 ((rd_T44 t301 Aa).f2),.int .i64 ((rd_T44 t301 Aa).f3),.int .i64 0,.int .i64 0,.int .i64 0]) ?_ 4 _ rfl;(with_reducible repeat (first|refine blk_drewN ?_ _|refine blk_drew ?_|refine blk_alloc ?_ _));refine blk_put (cs:=#[.int .i64 ((rd_T44 t301 Aa).f0),.int .i64 ((rd_T44 t301 Aa).f1),.int .i64 ((rd_T44 t301 Aa).f2),.int .i64 0,.int .i64 0,.int .i64 0,.int .i64 0]) ?_ 3 _ rfl;(with_reducible repeat (first|refine blk_drewN ?_ _|refine blk_drew ?_|refine blk_alloc ?_ _));refine blk_put (cs:=#[.int .i64 ((rd_T44 t301 Aa).f0),.int .i64 ((rd_T44 t301 Aa).f1),.int .i64 0,.int .i64 0,.int .i64 0,.int .i64 0,.int .i64 0]) ?_ 2 _ rfl;(with_reducible repeat (first|refine blk_drewN ?_ _|refine blk_drew ?_|refine blk_alloc ?_ _));refine blk_put (cs:=#[.int .i64 ((rd_T44 t301 Aa).f0),.int .i64 0,.int .i64 0,.int .i64 0,.int .i64 0,.int .i64 0,.int .i64 0]) ?_ 1 _ rfl;(with_reducible repeat (first|refine blk_drewN ?_ _|refine blk_drew ?_|refine blk_alloc ?_ _));refine blk_put (cs:=#[.int .i64 0,.int .i64 0,.int .i64 0,.int .i64 0,.int .i64 0,.int .i64 0,.int .i64 0]) ?_ 0 _ rfl;(with_reducible repeat (first|refine blk_drewN ?_ _|refine blk_drew ?_|refine blk_alloc ?_ _));exact Ab.out⟩,⟨by repeat (first|(with_reducible first|exact HB.out|apply below_alloc|apply pw_below_drewN|apply below_drew1|refine below_set ?_ GE300.out|refine below_set ?_ GE306.out|refine below_set ?_ GE307.out)|exact HB.out)⟩⟩
       case round =>
        clear H'
        try clear c1
        try clear c2
        try clear p2
        try clear c3
        try clear c3b0
        try clear c3b1
        try clear p3
        try clear q3
        try clear hx3
        try clear c8
        try clear c8b0
        try clear c9
        try clear c9b0
        try clear c10
        try clear c10b0
        try clear c12
        try clear c15
        try clear c16
        try clear hcz13_0
        try clear hcz13_1
        try clear hcz13_2
        try clear hcz13_3
        try clear hcz13_4
        try clear hcz13_5
        try clear hcz13_6
        try clear hcz17_0
        try clear hcz17_1
        try clear hcz17_2
        try clear hcz17_3
        try clear hcz17_4
        try clear hcz17_5
        try clear hcz17_6
        try clear hcz5_0
        try clear hcz5_1
        try clear hcz5_2
        try clear hcz5_3
        try clear hcz5_4
        try clear hfz13_0
        try clear hfz13_1
        try clear hfz13_2
        try clear hfz13_3
        try clear hfz13_4
        try clear hfz13_5
        try clear hfz13_6
        try clear hfz17_0
        try clear hfz17_1
        try clear hfz17_2
        try clear hfz17_3
        try clear hfz17_4
        try clear hfz17_5
        try clear hfz17_6
        try clear hfz5_0
        try clear hfz5_1
        try clear hfz5_2
        try clear hfz5_3
        try clear hfz5_4
        try clear hx305_0
        try clear hx305_1
        try clear hx305_2
        try clear hx305_3
        try clear hx305_4
        try clear hx305_5
        try clear hx305_6
        try clear p2
        try clear p305
        try clear q305
        obtain ⟨Aq,Am,Ak,Aj,Ah,Ag,Af,Ad,rfl,HA,HK2,Ap,BK300,Ac,Ab,HB⟩:=hrel
        cases gk with
        | zero=>exact absurd HA.out (by simp [kinds_Still.l1])
        | succ k2 =>
         have H:=HA.out
         clear HA
         simp only [kinds_Still.l1] at H
         by_cases c18 : Aq < (t301.length : Int)
         ·rw [if_pos c18] at H
          have c18b0 : decide (Aq < (t301.length : Int)) = true:=decide_eq_true c18
          clear c18
          replace H:=Option.bind_eq_some_iff.mp H
          obtain ⟨⟨Ar,t309,t310,t311,t312,t313,t314⟩,A190,H⟩:=H
          replace H : (kinds_Still.l1 k2 t301 (t301.length : Int) Aa (t301.length : Int) (wrap64 (Aq + 1)) ((rd_T44 t301 Aa).f0) ((rd_T44 t301 Aa).f1) ((rd_T44 t301 Aa).f2) ((rd_T44 t301 Aa).f3) ((rd_T44 t301 Aa).f4) ((rd_T44 t301 Aa).f5) ((rd_T44 t301 Aa).f6) Ar t309 t310 t311 t312 t313 t314) = some (r1,r2):=H
          have A19:=Aside0.mk A190
          clear A190
          have H':=Aside0.mk H
          clear H
          have hnb20:=At.out
          have hnc20:=An.out
          have hnb21:=Au.out
          have hnc21:=Ao.out
          have hcz22_0 : wr.cell? ⟨Ae,0,none⟩ = some (.int .i64 Am):=(blk_cell Ab.out 0).trans rfl
          have hcz22_1 : wr.cell? ⟨Ae,1,none⟩ = some (.int .i64 Ak):=(blk_cell Ab.out 1).trans rfl
          have hcz22_2 : wr.cell? ⟨Ae,2,none⟩ = some (.int .i64 Aj):=(blk_cell Ab.out 2).trans rfl
          have hcz22_3 : wr.cell? ⟨Ae,3,none⟩ = some (.int .i64 Ah):=(blk_cell Ab.out 3).trans rfl
          have hcz22_4 : wr.cell? ⟨Ae,4,none⟩ = some (.int .i64 Ag):=(blk_cell Ab.out 4).trans rfl
          have hcz22_5 : wr.cell? ⟨Ae,5,none⟩ = some (.int .i64 Af):=(blk_cell Ab.out 5).trans rfl
          have hcz22_6 : wr.cell? ⟨Ae,6,none⟩ = some (.int .i64 Ad):=(blk_cell Ab.out 6).trans rfl
          have hfz22_0:=blk_frozen Ab.out 0
          have hfz22_1:=blk_frozen Ab.out 1
          have hfz22_2:=blk_frozen Ab.out 2
          have hfz22_3:=blk_frozen Ab.out 3
          have hfz22_4:=blk_frozen Ab.out 4
          have hfz22_5:=blk_frozen Ab.out 5
          have hfz22_6:=blk_frozen Ab.out 6
          have hnb23:=As.out
          have hnc23:=Ai.out
          have hcz24_0 : wr.cell? ⟨Al,0,none⟩ = some (.int .i64 ((rd_T44 t301 Aa).f0)):=(blk_cell Ac.out 0).trans rfl
          have hcz24_1 : wr.cell? ⟨Al,1,none⟩ = some (.int .i64 ((rd_T44 t301 Aa).f1)):=(blk_cell Ac.out 1).trans rfl
          have hcz24_2 : wr.cell? ⟨Al,2,none⟩ = some (.int .i64 ((rd_T44 t301 Aa).f2)):=(blk_cell Ac.out 2).trans rfl
          have hcz24_3 : wr.cell? ⟨Al,3,none⟩ = some (.int .i64 ((rd_T44 t301 Aa).f3)):=(blk_cell Ac.out 3).trans rfl
          have hcz24_4 : wr.cell? ⟨Al,4,none⟩ = some (.int .i64 ((rd_T44 t301 Aa).f4)):=(blk_cell Ac.out 4).trans rfl
          have hcz24_5 : wr.cell? ⟨Al,5,none⟩ = some (.int .i64 ((rd_T44 t301 Aa).f5)):=(blk_cell Ac.out 5).trans rfl
          have hcz24_6 : wr.cell? ⟨Al,6,none⟩ = some (.int .i64 ((rd_T44 t301 Aa).f6)):=(blk_cell Ac.out 6).trans rfl
          have hfz24_0:=blk_frozen Ac.out 0
          have hfz24_1:=blk_frozen Ac.out 1
          have hfz24_2:=blk_frozen Ac.out 2
          have hfz24_3:=blk_frozen Ac.out 3
          have hfz24_4:=blk_frozen Ac.out 4
          have hfz24_5:=blk_frozen Ac.out 5
          have hfz24_6:=blk_frozen Ac.out 6
          go_wp2_with (first|((with_reducible refine gate_callee (f:=17) rfl ?_);refine goesL_ (some 30) rfl rfl Try.func17 (by kernel_rfl) rfl #[.agg #[.int .i64 Am,.int .i64 Ak,.int .i64 Aj,.int .i64 Ah,.int .i64 Ag,.int .i64 Af,.int .i64 Ad],.agg #[.int .i64 ((rd_T44 t301 Aa).f0),.int .i64 ((rd_T44 t301 Aa).f1),.int .i64 ((rd_T44 t301 Aa).f2),.int .i64 ((rd_T44 t301 Aa).f3),.int .i64 ((rd_T44 t301 Aa).f4),.int .i64 ((rd_T44 t301 Aa).f5),.int .i64 ((rd_T44 t301 Aa).f6)]] rfl qAs18_6 ?_;(with_reducible refine (kinds_move_then.calls Am Ak Aj Ah Ag Af Ad ((rd_T44 t301 Aa).f0) ((rd_T44 t301 Aa).f1) ((rd_T44 t301 Aa).f2) ((rd_T44 t301 Aa).f3) ((rd_T44 t301 Aa).f4) ((rd_T44 t301 Aa).f5) ((rd_T44 t301 Aa).f6) Ar t309 t310 t311 t312 t313 t314 _ A19.out).mono ?_);rintro e w25 ⟨rfl,hb⟩;refine ⟨_,rfl,?_⟩;have n0_:=Aside0.mk (Kd.R_below (qRs18_ Ap.out) hb);have n1_:=Aside0.mk (blk_below (g:=gb300) (o:=.cells #[.int .i64 a0_0,.int .i64 a0_1,.slice A0_2 l0_2.length c0_2,.int .i64 a0_3,.int .u32 a0_4] 25 (0,0)) (qDs18_ BK300.out) hb);have n2_:=Aside0.mk (blk_below (g:=Al) (o:=.cells #[.int .i64 ((rd_T44 t301 Aa).f0),.int .i64 ((rd_T44 t301 Aa).f1),.int .i64 ((rd_T44 t301 Aa).f2),.int .i64 ((rd_T44 t301 Aa).f3),.int .i64 ((rd_T44 t301 Aa).f4),.int .i64 ((rd_T44 t301 Aa).f5),.int .i64 ((rd_T44 t301 Aa).f6)] 44 (0,0)) (qDs18_ Ac.out) hb);have n3_:=Aside0.mk (blk_below (g:=Ae) (o:=.cells #[.int .i64 Am,.int .i64 Ak,.int .i64 Aj,.int .i64 Ah,.int .i64 Ag,.int .i64 Af,.int .i64 Ad] 44 (0,0)) (qDs18_ Ab.out) hb);have n4_:=Aside0.mk (below_step qBs18_5 hb);clear Ap;clear BK300;clear Ac;clear Ab;clear HB;have Ap:=n0_;have BK300:=n1_;have Ac:=n2_;have Ab:=n3_;have HB:=n4_;clear n0_ n1_ n2_ n3_ n4_;(try clear hb);(try clear hb2);(try clear hk);(try clear hi);have hcz26_0 : w25.cell? ⟨Ae,0,none⟩ = some (.int .i64 Am):=(blk_cell Ab.out 0).trans rfl;have hcz26_1 : w25.cell? ⟨Ae,1,none⟩ = some (.int .i64 Ak):=(blk_cell Ab.out 1).trans rfl;have hcz26_2 : w25.cell? ⟨Ae,2,none⟩ = some (.int .i64 Aj):=(blk_cell Ab.out 2).trans rfl;have hcz26_3 : w25.cell? ⟨Ae,3,none⟩ = some (.int .i64 Ah):=(blk_cell Ab.out 3).trans rfl;have hcz26_4 : w25.cell? ⟨Ae,4,none⟩ = some (.int .i64 Ag):=(blk_cell Ab.out 4).trans rfl;have hcz26_5 : w25.cell? ⟨Ae,5,none⟩ = some (.int .i64 Af):=(blk_cell Ab.out 5).trans rfl;have hcz26_6 : w25.cell? ⟨Ae,6,none⟩ = some (.int .i64 Ad):=(blk_cell Ab.out 6).trans rfl;have hfz26_0:=blk_frozen Ab.out 0;have hfz26_1:=blk_frozen Ab.out 1;have hfz26_2:=blk_frozen Ab.out 2;have hfz26_3:=blk_frozen Ab.out 3;have hfz26_4:=blk_frozen Ab.out 4;have hfz26_5:=blk_frozen Ab.out 5;have hfz26_6:=blk_frozen Ab.out 6))
          go_roundg k2
          case measure=>have:=HK1.out;have:=HK2.out;omega
          case rel=>exact ⟨(wrap64 (Aq + 1)),(Ar),(t309),(t310),(t311),(t312),(t313),(t314),(by first|rfl|(simp;done)|(simp [*];done)),H',⟨by have:=HK1.out;have:=HK2.out;omega⟩,⟨by (with_reducible repeat (first|apply Kd.R_alloc|apply Kd.R_drewN|apply Kd.R_drew));exact Kd.R_mono (Kd.R_far (p:=⟨Ae,6,none⟩) (Kd.R_far (p:=⟨Ae,5,none⟩) (Kd.R_far (p:=⟨Ae,4,none⟩) (Kd.R_far (p:=⟨Ae,3,none⟩) (Kd.R_far (p:=⟨Ae,2,none⟩) (Kd.R_far (p:=⟨Ae,1,none⟩) (Kd.R_far (p:=⟨Ae,0,none⟩) (Kd.R_mono Ap.out (fun k_ hk=>(⟨hk,hk.2⟩ : _ ∧ k_ ≠ Ae))) (fun _ hk=>hk.2) (.int .i64 Ar)) (fun _ hk=>hk.2) (.int .i64 t309)) (fun _ hk=>hk.2) (.int .i64 t310)) (fun _ hk=>hk.2) (.int .i64 t311)) (fun _ hk=>hk.2) (.int .i64 t312)) (fun _ hk=>hk.2) (.int .i64 t313)) (fun _ hk=>hk.2) (.int .i64 t314)) (fun _ hk=>⟨hk.1.1,hk.1.2⟩)⟩,⟨by (with_reducible repeat (first|refine blk_drewN ?_ _|refine blk_drew ?_|refine blk_alloc ?_ _));refine blk_far ?_ An.out _;(with_reducible repeat (first|refine blk_drewN ?_ _|refine blk_drew ?_|refine blk_alloc ?_ _));refine blk_far ?_ An.out _;(with_reducible repeat (first|refine blk_drewN ?_ _|refine blk_drew ?_|refine blk_alloc ?_ _));refine blk_far ?_ An.out _;(with_reducible repeat (first|refine blk_drewN ?_ _|refine blk_drew ?_|refine blk_alloc ?_ _));refine blk_far ?_ An.out _;(with_reducible repeat (first|refine blk_drewN ?_ _|refine blk_drew ?_|refine blk_alloc ?_ _));refine blk_far ?_ An.out _;(with_reducible repeat (first|refine blk_drewN ?_ _|refine blk_drew ?_|refine blk_alloc ?_ _));refine blk_far ?_ An.out _;(with_reducible repeat (first|refine blk_drewN ?_ _|refine blk_drew ?_|refine blk_alloc ?_ _));refine blk_far ?_ An.out _;(with_reducible repeat (first|refine blk_drewN ?_ _|refine blk_drew ?_|refine blk_alloc ?_ _));exact BK300.out⟩,⟨by (with_reducible repeat (first|refine blk_drewN ?_ _|refine blk_drew ?_|refine blk_alloc ?_ _));refine blk_far ?_ Ao.out _;(with_reducible repeat (first|refine blk_drewN ?_ _|refine blk_drew ?_|refine blk_alloc ?_ _));refine blk_far ?_ Ao.out _;(with_reducible repeat (first|refine blk_drewN ?_ _|refine blk_drew ?_|refine blk_alloc ?_ _));refine blk_far ?_ Ao.out _;(with_reducible repeat (first|refine blk_drewN ?_ _|refine blk_drew ?_|refine blk_alloc ?_ _));refine blk_far ?_ Ao.out _;(with_reducible repeat (first|refine blk_drewN ?_ _|refine blk_drew ?_|refine blk_alloc ?_ _));refine blk_far ?_ Ao.out _;(with_reducible repeat (first|refine blk_drewN ?_ _|refine blk_drew ?_|refine blk_alloc ?_ _));refine blk_far ?_ Ao.out _;(with_reducible repeat (first|refine blk_drewN ?_ _|refine blk_drew ?_|refine blk_alloc ?_ _));refine blk_far ?_ Ao.out _;(with_reducible repeat (first|refine blk_drewN ?_ _|refine blk_drew ?_|refine blk_alloc ?_ _));exact Ac.out⟩,⟨by (with_reducible repeat (first|refine blk_drewN ?_ _|refine blk_drew ?_|refine blk_alloc ?_ _));refine blk_put (cs:=#[.int .i64 Ar,.int .i64 t309,.int .i64 t310,.int .i64 t311,.int .i64 t312,.int .i64 t313,.int .i64 Ad]) ?_ 6 _ rfl;(with_reducible repeat (first|refine blk_drewN ?_ _|refine blk_drew ?_|refine blk_alloc ?_ _));refine blk_put (cs:=#[.int .i64 Ar,.int .i64 t309,.int .i64 t310,.int .i64 t311,.int .i64 t312,.int .i64 Af,.int .i64 Ad]) ?_ 5 _ rfl;(with_reducible repeat (first|refine blk_drewN ?_ _|refine blk_drew ?_|refine blk_alloc ?_ _));refine blk_put (cs:=#[.int .i64 Ar,.int .i64 t309,.int .i64 t310,.int .i64 t311,.int .i64 Ag,.int .i64 Af,.int .i64 Ad]) ?_ 4 _ rfl;(with_reducible repeat (first|refine blk_drewN ?_ _|refine blk_drew ?_|refine blk_alloc ?_ _));refine blk_put (cs:=#[.int .i64 Ar,.int .i64 t309,.int .i64 t310,.int .i64 Ah,.int .i64 Ag,.int .i64 Af,.int .i64 Ad]) ?_ 3 _ rfl;(with_reducible repeat (first|refine blk_drewN ?_ _|refine blk_drew ?_|refine blk_alloc ?_ _));refine blk_put (cs:=#[.int .i64 Ar,.int .i64 t309,.int .i64 Aj,.int .i64 Ah,.int .i64 Ag,.int .i64 Af,.int .i64 Ad]) ?_ 2 _ rfl;(with_reducible repeat (first|refine blk_drewN ?_ _|refine blk_drew ?_|refine blk_alloc ?_ _));refine blk_put (cs:=#[.int .i64 Ar,.int .i64 Ak,.int .i64 Aj,.int .i64 Ah,.int .i64 Ag,.int .i64 Af,.int .i64 Ad]) ?_ 1 _ rfl;(with_reducible repeat (first|refine blk_drewN ?_ _|refine blk_drew ?_|refine blk_alloc ?_ _));refine blk_put (cs:=#[.int .i64 Am,.int .i64 Ak,.int .i64 Aj,.int .i64 Ah,.int .i64 Ag,.int .i64 Af,.int .i64 Ad]) ?_ 0 _ rfl;(with_reducible repeat (first|refine blk_drewN ?_ _|refine blk_drew ?_|refine blk_alloc ?_ _));exact Ab.out⟩,⟨by repeat (first|(with_reducible first|exact HB.out|apply below_alloc|apply pw_below_drewN|apply below_drew1|refine below_set ?_ GE300.out|refine below_set ?_ GE306.out|refine below_set ?_ GE307.out)|exact HB.out)⟩⟩
         ·rw [if_neg c18] at H
          have c18b0 : decide (Aq < (t301.length : Int)) = false:=decide_eq_false c18
          clear c18
          replace H:=Option.bind_eq_some_iff.mp H
          obtain ⟨⟨t315,t316,t317,t318,t319,t320,t321⟩,A270,H⟩:=H
          replace H : (if (!(t315 == Am) || (!(t316 == Ak) || (!(t317 == Aj) || (!(t318 == Ah) || (!(t319 == Ag) || (!(t320 == Af) || (!(t321 == Ad)))))))) = true then (some (false,0)) else (kinds_Still.l0 k2 t301 (t301.length : Int) (wrap64 (Aa + 1)))) = some (r1,r2):=H
          have A27:=Aside0.mk A270
          clear A270
          by_cases c28 : (!(t315 == Am) || (!(t316 == Ak) || (!(t317 == Aj) || (!(t318 == Ah) || (!(t319 == Ag) || (!(t320 == Af) || (!(t321 == Ad)))))))) = true
          ·rw [if_pos c28] at H
           have c28b0 : (!(t315 == Am) || (!(t316 == Ak) || (!(t317 == Aj) || (!(t318 == Ah) || (!(t319 == Ag) || (!(t320 == Af) || (!(t321 == Ad)))))))) = true:=c28
           clear c28
           simp only [Option.some.injEq,Prod.mk.injEq] at H
           obtain ⟨rfl,rfl⟩:=H
           try go_wp2
           have n0_:=Aside0.mk (Kd.R_drew Ap.out)
           have n1_:=Aside0.mk (blk_drew BK300.out)
           have n2_:=Aside0.mk (blk_drew Ac.out)
           have n3_:=Aside0.mk (blk_drew Ab.out)
           have n4_:=Aside0.mk (below_drew1 HB.out)
           clear Ap
           clear BK300
           clear Ac
           clear Ab
           clear HB
           have Ap:=n0_
           have BK300:=n1_
           have Ac:=n2_
           have Ab:=n3_
           have HB:=n4_
           clear n0_ n1_ n2_ n3_ n4_
           refine start_ (n:=5) (S:=fun w'=>w'.cell? ⟨Ae,0,none⟩ = some (.int .i64 Am) ∧ w'.cell? ⟨Ae,1,none⟩ = some (.int .i64 Ak) ∧ w'.cell? ⟨Ae,2,none⟩ = some (.int .i64 Aj) ∧ w'.cell? ⟨Ae,3,none⟩ = some (.int .i64 Ah) ∧ w'.cell? ⟨Ae,4,none⟩ = some (.int .i64 Ag) ∧ w'.cell? ⟨Ae,5,none⟩ = some (.int .i64 Af) ∧ w'.cell? ⟨Ae,6,none⟩ = some (.int .i64 Ad) ∧ w'.cell? ⟨Al,0,none⟩ = some (.int .i64 ((rd_T44 t301 Aa).f0)) ∧ w'.cell? ⟨Al,1,none⟩ = some (.int .i64 ((rd_T44 t301 Aa).f1)) ∧ w'.cell? ⟨Al,2,none⟩ = some (.int .i64 ((rd_T44 t301 Aa).f2)) ∧ w'.cell? ⟨Al,3,none⟩ = some (.int .i64 ((rd_T44 t301 Aa).f3)) ∧ w'.cell? ⟨Al,4,none⟩ = some (.int .i64 ((rd_T44 t301 Aa).f4)) ∧ w'.cell? ⟨Al,5,none⟩ = some (.int .i64 ((rd_T44 t301 Aa).f5)) ∧ w'.cell? ⟨Al,6,none⟩ = some (.int .i64 ((rd_T44 t301 Aa).f6))) (ds:=[]) #[false,false,false,false,false] (by kernel_rfl) rfl rfl ⟨(blk_cell Ab.out 0).trans rfl,(blk_cell Ab.out 1).trans rfl,(blk_cell Ab.out 2).trans rfl,(blk_cell Ab.out 3).trans rfl,(blk_cell Ab.out 4).trans rfl,(blk_cell Ab.out 5).trans rfl,(blk_cell Ab.out 6).trans rfl,(blk_cell Ac.out 0).trans rfl,(blk_cell Ac.out 1).trans rfl,(blk_cell Ac.out 2).trans rfl,(blk_cell Ac.out 3).trans rfl,(blk_cell Ac.out 4).trans rfl,(blk_cell Ac.out 5).trans rfl,(blk_cell Ac.out 6).trans rfl⟩ (fun hHeld=>?_)
           generalize wr.drew = w29 at Ap BK300 Ac Ab HB hHeld ⊢
           refine take_ (i:=0) (N:=some 32) (v:=?_) (a':=?_) #[true,false,false,false,false] rfl rfl (by kernel_rfl) (fun _ _ _ h=>h) (Or.inl ⟨by rfl,?_⟩) hHeld ?_ ?_
           rotate_left
           ·rintro w' ⟨s0,s1,s2,s3,s4,s5,s6,s7,s8,s9,s10,s11,s12,s13⟩
            go_simp
            with_reducible rfl
           rotate_left
           ·simp only [Act.put,List.setIfInBounds_toArray,List.set_cons_zero,List.set_cons_succ,i64_w,i32_w]
            rfl
           refine take_ (i:=1) (N:=some 33) (v:=?_) (a':=?_) #[true,true,false,false,false] rfl rfl (by kernel_rfl) (fun _ _ _ h=>h) (Or.inl ⟨by rfl,?_⟩) hHeld ?_ ?_
           rotate_left
           ·rintro w' ⟨s0,s1,s2,s3,s4,s5,s6,s7,s8,s9,s10,s11,s12,s13⟩
            go_simp
            with_reducible rfl
           rotate_left
           ·simp only [Act.put,List.setIfInBounds_toArray,List.set_cons_zero,List.set_cons_succ,i64_w,i32_w]
            rfl
           refine take_ (i:=3) (N:=some 35) (v:=?_) (a':=?_) #[true,true,false,true,false] rfl rfl (by kernel_rfl) (fun _ _ _ h=>h) (Or.inl ⟨by rfl,?_⟩) hHeld ?_ ?_
           rotate_left
           ·rintro w' ⟨s0,s1,s2,s3,s4,s5,s6,s7,s8,s9,s10,s11,s12,s13⟩
            go_simp
            with_reducible rfl
           rotate_left
           ·simp only [Act.put,List.setIfInBounds_toArray,List.set_cons_zero,List.set_cons_succ,i64_w,i32_w]
            rfl
           refine one_ (i:=2) (N:=some 34) #[true,true,true,true,false] rfl rfl (by kernel_rfl) (by decide) (fun K hK=>?_)
           refine goes_ Try.func17 (by kernel_rfl) rfl #[.agg #[.int .i64 Am,.int .i64 Ak,.int .i64 Aj,.int .i64 Ah,.int .i64 Ag,.int .i64 Af,.int .i64 Ad],.agg #[.int .i64 ((rd_T44 t301 Aa).f0),.int .i64 ((rd_T44 t301 Aa).f1),.int .i64 ((rd_T44 t301 Aa).f2),.int .i64 ((rd_T44 t301 Aa).f3),.int .i64 ((rd_T44 t301 Aa).f4),.int .i64 ((rd_T44 t301 Aa).f5),.int .i64 ((rd_T44 t301 Aa).f6)]] (by rfl) rfl rfl qAs18_6 ?_
           with_reducible refine (kinds_move_then.calls Am Ak Aj Ah Ag Af Ad ((rd_T44 t301 Aa).f0) ((rd_T44 t301 Aa).f1) ((rd_T44 t301 Aa).f2) ((rd_T44 t301 Aa).f3) ((rd_T44 t301 Aa).f4) ((rd_T44 t301 Aa).f5) ((rd_T44 t301 Aa).f6) t315 t316 t317 t318 t319 t320 t321 _ A27.out).mono ?_
           rintro e w30 ⟨rfl,hb⟩
           refine ⟨_,rfl,?_⟩
           have n0_:=Aside0.mk (Kd.R_below (qRs18_ Ap.out) hb)
           have n1_:=Aside0.mk (blk_below (g:=gb300) (o:=.cells #[.int .i64 a0_0,.int .i64 a0_1,.slice A0_2 l0_2.length c0_2,.int .i64 a0_3,.int .u32 a0_4] 25 (0,0)) (qDs18_ BK300.out) hb)
           have n2_:=Aside0.mk (blk_below (g:=Al) (o:=.cells #[.int .i64 ((rd_T44 t301 Aa).f0),.int .i64 ((rd_T44 t301 Aa).f1),.int .i64 ((rd_T44 t301 Aa).f2),.int .i64 ((rd_T44 t301 Aa).f3),.int .i64 ((rd_T44 t301 Aa).f4),.int .i64 ((rd_T44 t301 Aa).f5),.int .i64 ((rd_T44 t301 Aa).f6)] 44 (0,0)) (qDs18_ Ac.out) hb)
           have n3_:=Aside0.mk (blk_below (g:=Ae) (o:=.cells #[.int .i64 Am,.int .i64 Ak,.int .i64 Aj,.int .i64 Ah,.int .i64 Ag,.int .i64 Af,.int .i64 Ad] 44 (0,0)) (qDs18_ Ab.out) hb)
           have n4_:=Aside0.mk (below_step qBs18_5 hb)
           clear Ap
           clear BK300
           clear Ac
           clear Ab
           clear HB
           have Ap:=n0_
           have BK300:=n1_
           have Ac:=n2_
           have Ab:=n3_
           have HB:=n4_
           clear n0_ n1_ n2_ n3_ n4_
           (try clear hb)
           (try clear hb2)
           (try clear hk)
           (try clear hi)
           refine hK.out _ _ ⟨(blk_cell Ab.out 0).trans rfl,(blk_cell Ab.out 1).trans rfl,(blk_cell Ab.out 2).trans rfl,(blk_cell Ab.out 3).trans rfl,(blk_cell Ab.out 4).trans rfl,(blk_cell Ab.out 5).trans rfl,(blk_cell Ab.out 6).trans rfl,(blk_cell Ac.out 0).trans rfl,(blk_cell Ac.out 1).trans rfl,(blk_cell Ac.out 2).trans rfl,(blk_cell Ac.out 3).trans rfl,(blk_cell Ac.out 4).trans rfl,(blk_cell Ac.out 5).trans rfl,(blk_cell Ac.out 6).trans rfl⟩ (fun hHeld=>?_)
           clear hK K
           refine norm_ (a':=?_) ?_ ?_
           rotate_left
           ·show Act.put _ (some 34) _ = _
            simp only [Act.put,List.setIfInBounds_toArray,List.set_cons_zero,List.set_cons_succ,i64_w,i32_w]
            rfl
           refine pure_ (i:=4) (N:=some 36) (v:=?_) (a':=?_) #[true,true,true,true,true] rfl rfl (by kernel_rfl) (fun _ _ _ h=>h) (Or.inl ⟨by rfl,?_⟩) ?_ ?_
           rotate_left
           ·intro w'
            go_simp
            with_reducible rfl
           rotate_left
           ·simp only [Act.put,List.setIfInBounds_toArray,List.set_cons_zero,List.set_cons_succ,i64_w,i32_w]
            rfl
           refine done_ (by kernel_rfl) ?_
           try go_wp2
           go_ret2
           exact ⟨by first|rfl|(simp [errW_none,errW_some] <;> rfl)|(simp [*,errW_none,errW_some] <;> rfl),by repeat (first|(with_reducible first|exact HB.out|apply below_alloc|apply pw_below_drewN|apply below_drew1|refine below_set ?_ GE300.out|refine below_set ?_ GE306.out|refine below_set ?_ GE307.out)|exact HB.out)⟩
          ·rw [if_neg c28] at H
           have c28b0 : (!(t315 == Am) || (!(t316 == Ak) || (!(t317 == Aj) || (!(t318 == Ah) || (!(t319 == Ag) || (!(t320 == Af) || (!(t321 == Ad)))))))) = false:=by simpa using c28
           clear c28
           have H':=Aside0.mk H
           clear H
           try go_wp2
           have n0_:=Aside0.mk (Kd.R_drew Ap.out)
           have n1_:=Aside0.mk (blk_drew BK300.out)
           have n2_:=Aside0.mk (blk_drew Ac.out)
           have n3_:=Aside0.mk (blk_drew Ab.out)
           have n4_:=Aside0.mk (below_drew1 HB.out)
           clear Ap
           clear BK300
           clear Ac
           clear Ab
           clear HB
           have Ap:=n0_
           have BK300:=n1_
           have Ac:=n2_
           have Ab:=n3_
           have HB:=n4_
           clear n0_ n1_ n2_ n3_ n4_
           refine start_ (n:=5) (S:=fun w'=>w'.cell? ⟨Ae,0,none⟩ = some (.int .i64 Am) ∧ w'.cell? ⟨Ae,1,none⟩ = some (.int .i64 Ak) ∧ w'.cell? ⟨Ae,2,none⟩ = some (.int .i64 Aj) ∧ w'.cell? ⟨Ae,3,none⟩ = some (.int .i64 Ah) ∧ w'.cell? ⟨Ae,4,none⟩ = some (.int .i64 Ag) ∧ w'.cell? ⟨Ae,5,none⟩ = some (.int .i64 Af) ∧ w'.cell? ⟨Ae,6,none⟩ = some (.int .i64 Ad) ∧ w'.cell? ⟨Al,0,none⟩ = some (.int .i64 ((rd_T44 t301 Aa).f0)) ∧ w'.cell? ⟨Al,1,none⟩ = some (.int .i64 ((rd_T44 t301 Aa).f1)) ∧ w'.cell? ⟨Al,2,none⟩ = some (.int .i64 ((rd_T44 t301 Aa).f2)) ∧ w'.cell? ⟨Al,3,none⟩ = some (.int .i64 ((rd_T44 t301 Aa).f3)) ∧ w'.cell? ⟨Al,4,none⟩ = some (.int .i64 ((rd_T44 t301 Aa).f4)) ∧ w'.cell? ⟨Al,5,none⟩ = some (.int .i64 ((rd_T44 t301 Aa).f5)) ∧ w'.cell? ⟨Al,6,none⟩ = some (.int .i64 ((rd_T44 t301 Aa).f6))) (ds:=[]) #[false,false,false,false,false] (by kernel_rfl) rfl rfl ⟨(blk_cell Ab.out 0).trans rfl,(blk_cell Ab.out 1).trans rfl,(blk_cell Ab.out 2).trans rfl,(blk_cell Ab.out 3).trans rfl,(blk_cell Ab.out 4).trans rfl,(blk_cell Ab.out 5).trans rfl,(blk_cell Ab.out 6).trans rfl,(blk_cell Ac.out 0).trans rfl,(blk_cell Ac.out 1).trans rfl,(blk_cell Ac.out 2).trans rfl,(blk_cell Ac.out 3).trans rfl,(blk_cell Ac.out 4).trans rfl,(blk_cell Ac.out 5).trans rfl,(blk_cell Ac.out 6).trans rfl⟩ (fun hHeld=>?_)
           generalize wr.drew = w31 at Ap BK300 Ac Ab HB hHeld ⊢
           refine take_ (i:=0) (N:=some 32) (v:=?_) (a':=?_) #[true,false,false,false,false] rfl rfl (by kernel_rfl) (fun _ _ _ h=>h) (Or.inl ⟨by rfl,?_⟩) hHeld ?_ ?_
           rotate_left
           ·rintro w' ⟨s0,s1,s2,s3,s4,s5,s6,s7,s8,s9,s10,s11,s12,s13⟩
            go_simp
            with_reducible rfl
           rotate_left
           ·simp only [Act.put,List.setIfInBounds_toArray,List.set_cons_zero,List.set_cons_succ,i64_w,i32_w]
            rfl
           refine take_ (i:=1) (N:=some 33) (v:=?_) (a':=?_) #[true,true,false,false,false] rfl rfl (by kernel_rfl) (fun _ _ _ h=>h) (Or.inl ⟨by rfl,?_⟩) hHeld ?_ ?_
           rotate_left
           ·rintro w' ⟨s0,s1,s2,s3,s4,s5,s6,s7,s8,s9,s10,s11,s12,s13⟩
            go_simp
            with_reducible rfl
           rotate_left
           ·simp only [Act.put,List.setIfInBounds_toArray,List.set_cons_zero,List.set_cons_succ,i64_w,i32_w]
            rfl
           refine take_ (i:=3) (N:=some 35) (v:=?_) (a':=?_) #[true,true,false,true,false] rfl rfl (by kernel_rfl) (fun _ _ _ h=>h) (Or.inl ⟨by rfl,?_⟩) hHeld ?_ ?_
           rotate_left
           ·rintro w' ⟨s0,s1,s2,s3,s4,s5,s6,s7,s8,s9,s10,s11,s12,s13⟩
            go_simp
            with_reducible rfl
           rotate_left
           ·simp only [Act.put,List.setIfInBounds_toArray,List.set_cons_zero,List.set_cons_succ,i64_w,i32_w]
            rfl
           refine one_ (i:=2) (N:=some 34) #[true,true,true,true,false] rfl rfl (by kernel_rfl) (by decide) (fun K hK=>?_)
           refine goes_ Try.func17 (by kernel_rfl) rfl #[.agg #[.int .i64 Am,.int .i64 Ak,.int .i64 Aj,.int .i64 Ah,.int .i64 Ag,.int .i64 Af,.int .i64 Ad],.agg #[.int .i64 ((rd_T44 t301 Aa).f0),.int .i64 ((rd_T44 t301 Aa).f1),.int .i64 ((rd_T44 t301 Aa).f2),.int .i64 ((rd_T44 t301 Aa).f3),.int .i64 ((rd_T44 t301 Aa).f4),.int .i64 ((rd_T44 t301 Aa).f5),.int .i64 ((rd_T44 t301 Aa).f6)]] (by rfl) rfl rfl qAs18_6 ?_
           with_reducible refine (kinds_move_then.calls Am Ak Aj Ah Ag Af Ad ((rd_T44 t301 Aa).f0) ((rd_T44 t301 Aa).f1) ((rd_T44 t301 Aa).f2) ((rd_T44 t301 Aa).f3) ((rd_T44 t301 Aa).f4) ((rd_T44 t301 Aa).f5) ((rd_T44 t301 Aa).f6) t315 t316 t317 t318 t319 t320 t321 _ A27.out).mono ?_
           rintro e w32 ⟨rfl,hb⟩
           refine ⟨_,rfl,?_⟩
           have n0_:=Aside0.mk (Kd.R_below (qRs18_ Ap.out) hb)
           have n1_:=Aside0.mk (blk_below (g:=gb300) (o:=.cells #[.int .i64 a0_0,.int .i64 a0_1,.slice A0_2 l0_2.length c0_2,.int .i64 a0_3,.int .u32 a0_4] 25 (0,0)) (qDs18_ BK300.out) hb)
           have n2_:=Aside0.mk (blk_below (g:=Al) (o:=.cells #[.int .i64 ((rd_T44 t301 Aa).f0),.int .i64 ((rd_T44 t301 Aa).f1),.int .i64 ((rd_T44 t301 Aa).f2),.int .i64 ((rd_T44 t301 Aa).f3),.int .i64 ((rd_T44 t301 Aa).f4),.int .i64 ((rd_T44 t301 Aa).f5),.int .i64 ((rd_T44 t301 Aa).f6)] 44 (0,0)) (qDs18_ Ac.out) hb)
           have n3_:=Aside0.mk (blk_below (g:=Ae) (o:=.cells #[.int .i64 Am,.int .i64 Ak,.int .i64 Aj,.int .i64 Ah,.int .i64 Ag,.int .i64 Af,.int .i64 Ad] 44 (0,0)) (qDs18_ Ab.out) hb)
           have n4_:=Aside0.mk (below_step qBs18_5 hb)
           clear Ap
           clear BK300
           clear Ac
           clear Ab
           clear HB
           have Ap:=n0_
           have BK300:=n1_
           have Ac:=n2_
           have Ab:=n3_
           have HB:=n4_
           clear n0_ n1_ n2_ n3_ n4_
           (try clear hb)
           (try clear hb2)
           (try clear hk)
           (try clear hi)
           refine hK.out _ _ ⟨(blk_cell Ab.out 0).trans rfl,(blk_cell Ab.out 1).trans rfl,(blk_cell Ab.out 2).trans rfl,(blk_cell Ab.out 3).trans rfl,(blk_cell Ab.out 4).trans rfl,(blk_cell Ab.out 5).trans rfl,(blk_cell Ab.out 6).trans rfl,(blk_cell Ac.out 0).trans rfl,(blk_cell Ac.out 1).trans rfl,(blk_cell Ac.out 2).trans rfl,(blk_cell Ac.out 3).trans rfl,(blk_cell Ac.out 4).trans rfl,(blk_cell Ac.out 5).trans rfl,(blk_cell Ac.out 6).trans rfl⟩ (fun hHeld=>?_)
           clear hK K
           refine norm_ (a':=?_) ?_ ?_
           rotate_left
           ·show Act.put _ (some 34) _ = _
            simp only [Act.put,List.setIfInBounds_toArray,List.set_cons_zero,List.set_cons_succ,i64_w,i32_w]
            rfl
           refine pure_ (i:=4) (N:=some 36) (v:=?_) (a':=?_) #[true,true,true,true,true] rfl rfl (by kernel_rfl) (fun _ _ _ h=>h) (Or.inl ⟨by rfl,?_⟩) ?_ ?_
           rotate_left
           ·intro w'
            go_simp
            with_reducible rfl
           rotate_left
           ·simp only [Act.put,List.setIfInBounds_toArray,List.set_cons_zero,List.set_cons_succ,i64_w,i32_w]
            rfl
           refine done_ (by kernel_rfl) ?_
           try go_wp2
           go_roundg k2
           case measure=>have:=HK1.out;have:=HK2.out;omega
           case rel=>exact ⟨(wrap64 (Aa + 1)),(by first|rfl|(simp;done)|(simp [*];done)),H',⟨by have:=HK1.out;have:=HK2.out;omega⟩,⟨by (with_reducible repeat (first|apply Kd.R_alloc|apply Kd.R_drewN|apply Kd.R_drew));exact Kd.R_mono Ap.out (fun _ hk=>trivial)⟩,⟨by (with_reducible repeat (first|refine blk_drewN ?_ _|refine blk_drew ?_|refine blk_alloc ?_ _));exact BK300.out⟩,⟨by repeat (first|(with_reducible first|exact HB.out|apply below_alloc|apply pw_below_drewN|apply below_drew1|refine below_set ?_ GE300.out|refine below_set ?_ GE306.out|refine below_set ?_ GE307.out)|exact HB.out)⟩⟩
      ·rw [if_neg c10] at H
       exact absurd H (by simp)
     ·rw [if_neg c9] at H
      exact absurd H (by simp)
    ·rw [if_neg c8] at H
     have c8b0 : decide (Aa < (t301.length : Int)) = false:=decide_eq_false c8
     clear c8
     simp only [Option.some.injEq,Prod.mk.injEq] at H
     obtain ⟨rfl,rfl⟩:=H
     go_wp2
     go_ret2
     exact ⟨by first|rfl|(simp [errW_none,errW_some] <;> rfl)|(simp [*,errW_none,errW_some] <;> rfl),by repeat (first|(with_reducible first|exact HB.out|apply below_alloc|apply pw_below_drewN|apply below_drew1|refine below_set ?_ GE300.out)|exact HB.out)⟩
 ·rw [if_neg c3] at H
  have c3b0 : (t304 == 0) = false:=beq_eq_false_iff_ne.mpr c3
  have c3b1 : (t304 != 0) = true:=bne_iff_ne.mpr c3
  simp only [Option.some.injEq,Prod.mk.injEq] at H
  obtain ⟨rfl,rfl⟩:=H
  go_enter Try.func8,Try.ntmps8
  go_wp2_with (first|((with_reducible refine gate_dst (N:=1) rfl ?_);refine box_event ?hg (N:=1) ?hd (cs:=#[.int .i64 a0_0,.int .i64 a0_1,.slice A0_2 l0_2.length c0_2,.int .i64 a0_3,.int .u32 a0_4]) (t:=25) ?hr ?_;(case hd=>rfl);(case hg=>rfl);(case hr=>first|(go_simp;done)|(go_simp;rfl));intro gb300 hg w33 hbox hb;have n0_:=Aside0.mk (below_step qBs18_2 hb);have n1_:=Aside0.mk (hbox);have n2_:=Aside0.mk ((by rw [hg];exact (below_size qBs18_2) : w.heap.size ≤ gb300));have n3_:=Aside0.mk ((by rw [hg];exact (below_size qBs18_2) : w.heap.size ≤ gb300));clear HB;have HB:=n0_;have BK300:=n1_;have GW300:=n2_;have GE300:=n3_;clear n0_ n1_ n2_ n3_;clear hb hbox hg;have hcz34_0 : w33.cell? ⟨gb300,0,none⟩ = some (.int .i64 a0_0):=(blk_cell BK300.out 0).trans rfl;have hcz34_1 : w33.cell? ⟨gb300,1,none⟩ = some (.int .i64 a0_1):=(blk_cell BK300.out 1).trans rfl;have hcz34_2 : w33.cell? ⟨gb300,2,none⟩ = some (.slice A0_2 l0_2.length c0_2):=(blk_cell BK300.out 2).trans rfl;have hcz34_3 : w33.cell? ⟨gb300,3,none⟩ = some (.int .i64 a0_3):=(blk_cell BK300.out 3).trans rfl;have hcz34_4 : w33.cell? ⟨gb300,4,none⟩ = some (.int .u32 a0_4):=(blk_cell BK300.out 4).trans rfl;have hfz34_0:=blk_frozen BK300.out 0;have hfz34_1:=blk_frozen BK300.out 1;have hfz34_2:=blk_frozen BK300.out 2;have hfz34_3:=blk_frozen BK300.out 3;have hfz34_4:=blk_frozen BK300.out 4)|((with_reducible refine gate_callee (f:=20) rfl ?_);refine goesL_ (some 11) rfl rfl Try.func20 (by kernel_rfl) rfl #[.agg #[.int .i64 a0_0,.int .i64 a0_1,.slice A0_2 l0_2.length c0_2,.int .i64 a0_3,.int .u32 a0_4]] rfl qAs18_6 ?_;(with_reducible refine (kinds_kinds.calls k a0_0 a0_1 _ _ l0_2 a0_3 a0_4 t301 t304 _ ?side1 ?side2 A2.out).mono ?_);(case side1=>repeat (first|exact (Kd.C_below HR0_2.out HB.out)|(with_reducible refine Kd.C_alloc ?_ _)|(with_reducible refine Kd.C_drewN ?_ _)|(with_reducible refine Kd.C_drew ?_)));(case side2=>exact HC0_2.out);rintro e w35 ⟨v302,rfl,ho0,hb⟩;refine ⟨_,rfl,?_⟩;have n0_:=Aside0.mk (Kd.R_lower ho0 (below_size qBs18_3));have n1_:=Aside0.mk (blk_below (g:=gb300) (o:=.cells #[.int .i64 a0_0,.int .i64 a0_1,.slice A0_2 l0_2.length c0_2,.int .i64 a0_3,.int .u32 a0_4] 25 (0,0)) (qDs18_ BK300.out) hb);have n2_:=Aside0.mk (below_step qBs18_3 hb);clear BK300;clear HB;have HO303:=n0_;have BK300:=n1_;have HB:=n2_;clear n0_ n1_ n2_;(try clear hb);(try clear hb2);(try clear hk);(try clear hi);(try clear ho0)))
  go_ret2
  exact ⟨by first|rfl|(simp [errW_none,errW_some] <;> rfl)|(simp [*,errW_none,errW_some] <;> rfl),by repeat (first|(with_reducible first|exact HB.out|apply below_alloc|apply pw_below_drewN|apply below_drew1|refine below_set ?_ GE300.out)|exact HB.out)⟩
end Go.Proofs.Yteppbihlpicjpaa.GM
