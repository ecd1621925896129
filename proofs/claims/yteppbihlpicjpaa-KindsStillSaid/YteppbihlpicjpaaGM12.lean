-- Written by ext.py, a program of this session.
import Derived.Test.YteppbihlpicjpaaGM0
import Derived.Test.YteppbihlpicjpaaGM1
import Derived.Test.YteppbihlpicjpaaGM3
import Derived.Test.YteppbihlpicjpaaGM4
import Derived.Test.YteppbihlpicjpaaGM9
import Derived.Test.YteppbihlpicjpaaGM10
import Derived.Test.YteppbihlpicjpaaGM11
namespace Go.Proofs.Yteppbihlpicjpaa.GM
open Go.RowKit Go.Proofs.YteppbihlpicjpaaW.PrintWords Go.Proofs.YteppbihlpicjpaaW.PrintLast Go.Proofs.YteppbihlpicjpaaW.PrintMore
attribute [local go_sem] max2_int min2_int max_two min_two max_three min_three max_four min_four cellIs_set   -- for this text's walks alone
set_option linter.unusedVariables false
set_option linter.unusedSimpArgs false
attribute [local go_sem high] eqA44
/-! ### kinds_Same: function 5 -/
mutual
def kinds_Same.l0 : Nat → List Int → List Int → List (List Int) → Int → Int → Int → Int → List (List Int) → Int → Int → Option (Bool × Int)
 | 0,_,_,_,_,_,_,_,_,_,_=>none
 | k + 1,x1,x2,x25,x26,x27,x186000,x186001,x186002,x186003,x186004=>if x27 < x26 then (if 0 ≤ x27 then (if x27 < (x25.length : Int) then ((machine_Words.f x186001 (rd_L1 x25 x27)).bind fun t191=>(if t191 = 0 then (kinds_Same.l0 k x1 x2 x25 x26 (wrap64 (x27 + 1)) x186000 x186001 x186002 x186003 x186004) else (some (false,t191)))) else (none)) else (none)) else ((least_Small.f k x186000 x186001 x186002 x186003 x186004).bind fun bt192=>((kinds_still.f).bind fun bt199=>((kinds_still.f).bind fun bt206=>(kinds_Same.l1 k x1 x2 (x1.length : Int) 0 bt192.1 bt192.2.1 bt192.2.2.1 bt192.2.2.2.1 bt192.2.2.2.2 bt199.1 bt199.2.1 bt199.2.2.1 bt199.2.2.2.1 bt199.2.2.2.2.1 bt199.2.2.2.2.2.1 bt199.2.2.2.2.2.2 bt206.1 bt206.2.1 bt206.2.2.1 bt206.2.2.2.1 bt206.2.2.2.2.1 bt206.2.2.2.2.2.1 bt206.2.2.2.2.2.2))))
def kinds_Same.l1 : Nat → List Int → List Int → Int → Int → Int → Int → List (List Int) → Int → Int → Int → Int → Int → Int → Int → Int → Int → Int → Int → Int → Int → Int → Int → Int → Option (Bool × Int)
 | 0,_,_,_,_,_,_,_,_,_,_,_,_,_,_,_,_,_,_,_,_,_,_,_=>none
 | k + 1,x1,x2,x44,x45,x186000,x186001,x186002,x186003,x186004,x214000,x214001,x214002,x214003,x214004,x214005,x214006,x215000,x215001,x215002,x215003,x215004,x215005,x215006=>if x45 < x44 then (if 0 ≤ x45 then (if x45 < (x1.length : Int) then ((kinds_by.f x186000 x186001 x186002 x186003 x186004 (rd x1 x45)).bind fun bt216=>((kinds_move_then.f x214000 x214001 x214002 x214003 x214004 x214005 x214006 bt216.1 bt216.2.1 bt216.2.2.1 bt216.2.2.2.1 bt216.2.2.2.2.1 bt216.2.2.2.2.2.1 bt216.2.2.2.2.2.2).bind fun bt223=>(kinds_Same.l1 k x1 x2 x44 (wrap64 (x45 + 1)) x186000 x186001 x186002 x186003 x186004 bt223.1 bt223.2.1 bt223.2.2.1 bt223.2.2.2.1 bt223.2.2.2.2.1 bt223.2.2.2.2.2.1 bt223.2.2.2.2.2.2 x215000 x215001 x215002 x215003 x215004 x215005 x215006))) else (none)) else (none)) else (kinds_Same.l2 k x2 (x2.length : Int) 0 x186000 x186001 x186002 x186003 x186004 x214000 x214001 x214002 x214003 x214004 x214005 x214006 x215000 x215001 x215002 x215003 x215004 x215005 x215006)
def kinds_Same.l2 : Nat → List Int → Int → Int → Int → Int → List (List Int) → Int → Int → Int → Int → Int → Int → Int → Int → Int → Int → Int → Int → Int → Int → Int → Int → Option (Bool × Int)
 | 0,_,_,_,_,_,_,_,_,_,_,_,_,_,_,_,_,_,_,_,_,_,_=>none
 | k + 1,x2,x56,x57,x186000,x186001,x186002,x186003,x186004,x214000,x214001,x214002,x214003,x214004,x214005,x214006,x215000,x215001,x215002,x215003,x215004,x215005,x215006=>if x57 < x56 then (if 0 ≤ x57 then (if x57 < (x2.length : Int) then ((kinds_by.f x186000 x186001 x186002 x186003 x186004 (rd x2 x57)).bind fun bt231=>((kinds_move_then.f x215000 x215001 x215002 x215003 x215004 x215005 x215006 bt231.1 bt231.2.1 bt231.2.2.1 bt231.2.2.2.1 bt231.2.2.2.2.1 bt231.2.2.2.2.2.1 bt231.2.2.2.2.2.2).bind fun bt238=>(kinds_Same.l2 k x2 x56 (wrap64 (x57 + 1)) x186000 x186001 x186002 x186003 x186004 x214000 x214001 x214002 x214003 x214004 x214005 x214006 bt238.1 bt238.2.1 bt238.2.2.1 bt238.2.2.2.1 bt238.2.2.2.2.1 bt238.2.2.2.2.2.1 bt238.2.2.2.2.2.2))) else (none)) else (none)) else (some ((x214000 == x215000 && (x214001 == x215001 && (x214002 == x215002 && (x214003 == x215003 && (x214004 == x215004 && (x214005 == x215005 && (x214006 == x215006))))))),0))
end
def kinds_Same.f (k : Nat) (a0_0 : Int) (a0_1 : Int) (l0_2 : List (List Int)) (a0_3 : Int) (a0_4 : Int) (l1 : List Int) (l2 : List Int) : Option (Bool × Int):=(machine_Check.f k a0_0 a0_1 l0_2 a0_3 a0_4).bind fun t186=>(if t186 = 0 then ((some (([l1,l2] : List (List Int)) : List (List Int))).bind fun y187=>(kinds_Same.l0 k l1 l2 y187 (y187.length : Int) 0 a0_0 a0_1 l0_2 a0_3 a0_4)) else (some (false,t186)))
theorem kinds_Same.mono_l : ∀ k,(∀ y0 y1 y2 y3 y4 y5 y6 y7 y8 y9,LeO (kinds_Same.l0 k y0 y1 y2 y3 y4 y5 y6 y7 y8 y9) (kinds_Same.l0 (k + 1) y0 y1 y2 y3 y4 y5 y6 y7 y8 y9)) ∧ (∀ y0 y1 y2 y3 y4 y5 y6 y7 y8 y9 y10 y11 y12 y13 y14 y15 y16 y17 y18 y19 y20 y21 y22,LeO (kinds_Same.l1 k y0 y1 y2 y3 y4 y5 y6 y7 y8 y9 y10 y11 y12 y13 y14 y15 y16 y17 y18 y19 y20 y21 y22) (kinds_Same.l1 (k + 1) y0 y1 y2 y3 y4 y5 y6 y7 y8 y9 y10 y11 y12 y13 y14 y15 y16 y17 y18 y19 y20 y21 y22)) ∧ (∀ y0 y1 y2 y3 y4 y5 y6 y7 y8 y9 y10 y11 y12 y13 y14 y15 y16 y17 y18 y19 y20 y21,LeO (kinds_Same.l2 k y0 y1 y2 y3 y4 y5 y6 y7 y8 y9 y10 y11 y12 y13 y14 y15 y16 y17 y18 y19 y20 y21) (kinds_Same.l2 (k + 1) y0 y1 y2 y3 y4 y5 y6 y7 y8 y9 y10 y11 y12 y13 y14 y15 y16 y17 y18 y19 y20 y21))
 | 0=>⟨fun _ _ _ _ _ _ _ _ _ _ r h=>by simp [kinds_Same.l0] at h,fun _ _ _ _ _ _ _ _ _ _ _ _ _ _ _ _ _ _ _ _ _ _ _ r h=>by simp [kinds_Same.l1] at h,fun _ _ _ _ _ _ _ _ _ _ _ _ _ _ _ _ _ _ _ _ _ _ r h=>by simp [kinds_Same.l2] at h⟩
 | k + 1=>by
  obtain ⟨ih0,ih1,ih2⟩:=kinds_Same.mono_l k
  refine ⟨?_,?_,?_⟩
  ·intro y0 y1 y2 y3 y4 y5 y6 y7 y8 y9
   unfold kinds_Same.l0
   repeat' first
   | (with_reducible exact ih0 _ _ _ _ _ _ _ _ _ _)
   | (with_reducible exact ih1 _ _ _ _ _ _ _ _ _ _ _ _ _ _ _ _ _ _ _ _ _ _ _)
   | (with_reducible exact ih2 _ _ _ _ _ _ _ _ _ _ _ _ _ _ _ _ _ _ _ _ _ _)
   | (with_reducible exact least_Small.mono _ _ _ _ _ _)
   | (with_reducible exact machine_Check.mono _ _ _ _ _ _)
   | (with_reducible exact LeO.refl _)
   | (with_reducible exact LeO.none _)
   | (with_reducible refine LeO.ite ?_ ?_)
   | (with_reducible refine LeO.bind ?_ (fun _=>?_))
   | exact ih0 _ _ _ _ _ _ _ _ _ _
   | exact ih1 _ _ _ _ _ _ _ _ _ _ _ _ _ _ _ _ _ _ _ _ _ _ _
   | exact ih2 _ _ _ _ _ _ _ _ _ _ _ _ _ _ _ _ _ _ _ _ _ _
   | exact least_Small.mono _ _ _ _ _ _
   | exact machine_Check.mono _ _ _ _ _ _
   | exact LeO.none _
   | refine LeO.ite ?_ ?_
   | refine LeO.bind ?_ (fun _=>?_)
  ·intro y0 y1 y2 y3 y4 y5 y6 y7 y8 y9 y10 y11 y12 y13 y14 y15 y16 y17 y18 y19 y20 y21 y22
   unfold kinds_Same.l1
   repeat' first
   | (with_reducible exact ih0 _ _ _ _ _ _ _ _ _ _)
   | (with_reducible exact ih1 _ _ _ _ _ _ _ _ _ _ _ _ _ _ _ _ _ _ _ _ _ _ _)
   | (with_reducible exact ih2 _ _ _ _ _ _ _ _ _ _ _ _ _ _ _ _ _ _ _ _ _ _)
   | (with_reducible exact least_Small.mono _ _ _ _ _ _)
   | (with_reducible exact machine_Check.mono _ _ _ _ _ _)
   | (with_reducible exact LeO.refl _)
   | (with_reducible exact LeO.none _)
   | (with_reducible refine LeO.ite ?_ ?_)
   | (with_reducible refine LeO.bind ?_ (fun _=>?_))
   | exact ih0 _ _ _ _ _ _ _ _ _ _
   | exact ih1 _ _ _ _ _ _ _ _ _ _ _ _ _ _ _ _ _ _ _ _ _ _ _
   | exact ih2 _ _ _ _ _ _ _ _ _ _ _ _ _ _ _ _ _ _ _ _ _ _
   | exact least_Small.mono _ _ _ _ _ _
   | exact machine_Check.mono _ _ _ _ _ _
   | exact LeO.none _
   | refine LeO.ite ?_ ?_
   | refine LeO.bind ?_ (fun _=>?_)
  ·intro y0 y1 y2 y3 y4 y5 y6 y7 y8 y9 y10 y11 y12 y13 y14 y15 y16 y17 y18 y19 y20 y21
   unfold kinds_Same.l2
   repeat' first
   | (with_reducible exact ih0 _ _ _ _ _ _ _ _ _ _)
   | (with_reducible exact ih1 _ _ _ _ _ _ _ _ _ _ _ _ _ _ _ _ _ _ _ _ _ _ _)
   | (with_reducible exact ih2 _ _ _ _ _ _ _ _ _ _ _ _ _ _ _ _ _ _ _ _ _ _)
   | (with_reducible exact least_Small.mono _ _ _ _ _ _)
   | (with_reducible exact machine_Check.mono _ _ _ _ _ _)
   | (with_reducible exact LeO.refl _)
   | (with_reducible exact LeO.none _)
   | (with_reducible refine LeO.ite ?_ ?_)
   | (with_reducible refine LeO.bind ?_ (fun _=>?_))
   | exact ih0 _ _ _ _ _ _ _ _ _ _
   | exact ih1 _ _ _ _ _ _ _ _ _ _ _ _ _ _ _ _ _ _ _ _ _ _ _
   | exact ih2 _ _ _ _ _ _ _ _ _ _ _ _ _ _ _ _ _ _ _ _ _ _
   | exact least_Small.mono _ _ _ _ _ _
   | exact machine_Check.mono _ _ _ _ _ _
   | exact LeO.none _
   | refine LeO.ite ?_ ?_
   | refine LeO.bind ?_ (fun _=>?_)
theorem kinds_Same.mono : ∀ a0 a1 a2 a3 a4 a5 a6 k,LeO (kinds_Same.f k a0 a1 a2 a3 a4 a5 a6) (kinds_Same.f (k + 1) a0 a1 a2 a3 a4 a5 a6):=by
 intro a0 a1 a2 a3 a4 a5 a6 k
 obtain ⟨ih0,ih1,ih2⟩:=kinds_Same.mono_l k
 unfold kinds_Same.f
 repeat' first
   | (with_reducible exact ih0 _ _ _ _ _ _ _ _ _ _)
   | (with_reducible exact ih1 _ _ _ _ _ _ _ _ _ _ _ _ _ _ _ _ _ _ _ _ _ _ _)
   | (with_reducible exact ih2 _ _ _ _ _ _ _ _ _ _ _ _ _ _ _ _ _ _ _ _ _ _)
   | (with_reducible exact least_Small.mono _ _ _ _ _ _)
   | (with_reducible exact machine_Check.mono _ _ _ _ _ _)
   | (with_reducible exact LeO.refl _)
   | (with_reducible exact LeO.none _)
   | (with_reducible refine LeO.ite ?_ ?_)
   | (with_reducible refine LeO.bind ?_ (fun _=>?_))
   | exact ih0 _ _ _ _ _ _ _ _ _ _
   | exact ih1 _ _ _ _ _ _ _ _ _ _ _ _ _ _ _ _ _ _ _ _ _ _ _
   | exact ih2 _ _ _ _ _ _ _ _ _ _ _ _ _ _ _ _ _ _ _ _ _ _
   | exact least_Small.mono _ _ _ _ _ _
   | exact machine_Check.mono _ _ _ _ _ _
   | exact LeO.none _
   | refine LeO.ite ?_ ?_
   | refine LeO.bind ?_ (fun _=>?_)
theorem qDs12_ {p q : Prop} (H : q) (h : q → p:=by intro h_;(with_reducible repeat (first|refine blk_drewN ?_ _|refine blk_drew ?_|refine blk_alloc ?_ _));exact h_) : p:=h H
theorem qNs12_ {p q : Prop} (H : q) (h : q → p:=by intro h_;(with_reducible repeat (first|apply Kd.N_alloc|apply Kd.N_drewN|apply Kd.N_drew));exact h_) : p:=h H
theorem qBs12_2 {p : Prop} (h : p:=by repeat (first|(with_reducible first|exact HB.out|apply below_alloc|apply pw_below_drewN|apply below_drew1)|exact HB.out)) : p:=h
theorem qBs12_3 {p : Prop} (h : p:=by repeat (first|(with_reducible first|exact HB.out|apply below_alloc|apply pw_below_drewN|apply below_drew1|refine below_set ?_ Bm.out)|exact HB.out)) : p:=h
theorem qBs12_4 {p : Prop} (h : p:=by repeat (first|(with_reducible first|exact HB.out|apply below_alloc|apply pw_below_drewN|apply below_drew1|refine below_set ?_ Bm.out|refine below_set ?_ GE213.out)|exact HB.out)) : p:=h
theorem qBs12_5 {p : Prop} (h : p:=by repeat (first|(with_reducible first|exact HB.out|apply below_alloc|apply pw_below_drewN|apply below_drew1|refine below_set ?_ Bm.out|refine below_set ?_ GE213.out|refine below_set ?_ GE214.out)|exact HB.out)) : p:=h
theorem qAs12_6 {p : Prop} (h : p:=by (try simp only [List.map_toArray,List.map_cons,List.map_nil]);first|done|rfl|(simp only [List.length_drop,List.length_take];rfl)) : p:=h
theorem qAs12_7 {p : Prop} (h : p:=by first|(with_reducible assumption)|assumption) : p:=h
set_option maxHeartbeats 8000000 in
set_option maxRecDepth 100000 in
theorem kinds_Same.calls (k : Nat) (a0_0 : Int) (a0_1 : Int) (A0_2 : Option Addr) (c0_2 : Nat) (l0_2 : List (List Int)) (a0_3 : Int) (a0_4 : Int) (P1_ : Nat → Prop) (A1 : Option Addr) (c1 : Nat) (l1 : List Int) (P2_ : Nat → Prop) (A2 : Option Addr) (c2 : Nat) (l2 : List Int) (r1 : Bool) (r2 : Int) (w : World) (hr0_2 : Kd.C (Kd.slice 3 (Kd.int .i64)) w A0_2 l0_2.length l0_2) (hc0_2 : l0_2.length ≤ c0_2) (hs1 : Kd.V (Kd.int .i64) 3 w w.heap.size (fun k_=>P1_ k_) (.slice A1 l1.length c1) l1) (hs2 : Kd.V (Kd.int .i64) 3 w w.heap.size (fun k_=>P2_ k_) (.slice A2 l2.length c2) l2) (h : kinds_Same.f k a0_0 a0_1 l0_2 a0_3 a0_4 l1 l2 = some (r1,r2)) :
  Calls Try.prog 5 #[.agg #[.int .i64 a0_0,.int .i64 a0_1,.slice A0_2 l0_2.length c0_2,.int .i64 a0_3,.int .u32 a0_4],.slice A1 l1.length c1,.slice A2 l2.length c2] w fun e w'=>e = .returned (.tuple #[.bool r1,.int .i64 r2]) ∧ Below w.heap.size w w':=by
 have hu25:=Try.underlying25
 have hu44:=Try.underlying44
 have HR0_2:=Aside0.mk hr0_2
 have HC0_2:=Aside0.mk hc0_2
 clear hr0_2 hc0_2
 have HO1:=Aside0.mk (show Kd.V (Kd.int .i64) 3 w w.heap.size (fun k_=>((P1_ k_ ∨ P2_ k_) ∨ w.heap.size ≤ k_)) (.slice A1 l1.length c1) l1 from Kd.V_mono hs1 (fun k_ hk=>.inl (.inl hk)))
 have HO2:=Aside0.mk (show Kd.V (Kd.int .i64) 3 w w.heap.size (fun k_=>((P1_ k_ ∨ P2_ k_) ∨ w.heap.size ≤ k_)) (.slice A2 l2.length c2) l2 from Kd.V_mono hs2 (fun k_ hk=>.inl (.inr hk)))
 have HB:=Aside0.mk (Below.refl w.heap.size w)
 have H : ((machine_Check.f k a0_0 a0_1 l0_2 a0_3 a0_4).bind fun t186=>(if t186 = 0 then ((some (([l1,l2] : List (List Int)) : List (List Int))).bind fun y187=>(kinds_Same.l0 k l1 l2 y187 (y187.length : Int) 0 a0_0 a0_1 l0_2 a0_3 a0_4)) else (some (false,t186)))) = some (r1,r2):=h
 clear h
 replace H:=Option.bind_eq_some_iff.mp H
 obtain ⟨t186,A40,H⟩:=H
 replace H : (if t186 = 0 then ((some (([l1,l2] : List (List Int)) : List (List Int))).bind fun y187=>(kinds_Same.l0 k l1 l2 y187 (y187.length : Int) 0 a0_0 a0_1 l0_2 a0_3 a0_4)) else (some (false,t186))) = some (r1,r2):=H
 have A4:=Aside0.mk A40
 clear A40
 by_cases c5 : t186 = 0
 ·rw [if_pos c5] at H
  have c5b0 : (t186 == 0) = true:=beq_iff_eq.mpr c5
  have c5b1 : (t186 != 0) = false:=bne_eq_false_iff_eq.mpr c5
  clear c5
  obtain ⟨y187,hy187⟩ : ∃ y_ : List (List Int),y_ = (([l1,l2] : List (List Int))):=⟨_,rfl⟩
  replace H : (kinds_Same.l0 k l1 l2 y187 (y187.length : Int) 0 a0_0 a0_1 l0_2 a0_3 a0_4) = some (r1,r2):=by first|(rw [hy187];with_reducible exact H)|(have H2_:=(Option.bind_some _ _).symm.trans H;rw [hy187];with_reducible exact H2_)|(have H2_:=(Option.bind_some _ _).symm.trans H;with_reducible exact H2_)|with_reducible exact H|(rw [hy187];exact H)|exact H
  have Ny187:=Aside0.mk hy187
  clear hy187
  have H':=Aside0.mk H
  clear H
  go_enter Try.func5,Try.ntmps5
  go_wp2_with (first|((with_reducible refine gate_dst (N:=3) rfl ?_);refine box_event ?hg (N:=3) ?hd (cs:=#[.int .i64 a0_0,.int .i64 a0_1,.slice A0_2 l0_2.length c0_2,.int .i64 a0_3,.int .u32 a0_4]) (t:=25) ?hr ?_;(case hd=>rfl);(case hg=>rfl);(case hr=>first|(go_simp;done)|(go_simp;rfl));intro Ab hg w6 hbox hb;have n0_:=Aside0.mk (Kd.V_below (Kd.V_elderB (by (with_reducible repeat (first|apply Kd.V_alloc|apply Kd.V_drewN|apply Kd.V_drew));exact HO1.out) Ab (Nat.le_of_eq hg.symm)) hb);have n1_:=Aside0.mk (Kd.V_below (Kd.V_elderB (by (with_reducible repeat (first|apply Kd.V_alloc|apply Kd.V_drewN|apply Kd.V_drew));exact HO2.out) Ab (Nat.le_of_eq hg.symm)) hb);have n2_:=Aside0.mk (below_step qBs12_2 hb);have n3_:=Aside0.mk (hbox);have n4_:=Aside0.mk ((by rw [hg];exact (below_size qBs12_2) : w.heap.size ≤ Ab));have n5_:=Aside0.mk ((by rw [hg];exact (below_size qBs12_2) : w.heap.size ≤ Ab));clear HO1;clear HO2;clear HB;have HO1:=n0_;have HO2:=n1_;have HB:=n2_;have Aa:=n3_;have GW185:=n4_;have Bm:=n5_;clear n0_ n1_ n2_ n3_ n4_ n5_;clear hb hbox hg;have hcz7_0 : w6.cell? ⟨Ab,0,none⟩ = some (.int .i64 a0_0):=(blk_cell Aa.out 0).trans rfl;have hcz7_1 : w6.cell? ⟨Ab,1,none⟩ = some (.int .i64 a0_1):=(blk_cell Aa.out 1).trans rfl;have hcz7_2 : w6.cell? ⟨Ab,2,none⟩ = some (.slice A0_2 l0_2.length c0_2):=(blk_cell Aa.out 2).trans rfl;have hcz7_3 : w6.cell? ⟨Ab,3,none⟩ = some (.int .i64 a0_3):=(blk_cell Aa.out 3).trans rfl;have hcz7_4 : w6.cell? ⟨Ab,4,none⟩ = some (.int .u32 a0_4):=(blk_cell Aa.out 4).trans rfl;have hfz7_0:=blk_frozen Aa.out 0;have hfz7_1:=blk_frozen Aa.out 1;have hfz7_2:=blk_frozen Aa.out 2;have hfz7_3:=blk_frozen Aa.out 3;have hfz7_4:=blk_frozen Aa.out 4)|((with_reducible refine gate_callee (f:=13) rfl ?_);refine goesL_ (some 19) rfl rfl Try.func13 (by kernel_rfl) rfl #[.agg #[.int .i64 a0_0,.int .i64 a0_1,.slice A0_2 l0_2.length c0_2,.int .i64 a0_3,.int .u32 a0_4]] rfl qAs12_6 ?_;(with_reducible refine (machine_Check.calls k a0_0 a0_1 _ _ l0_2 a0_3 a0_4 t186 _ ?side1 ?side2 A4.out).mono ?_);(case side1=>repeat (first|exact (Kd.C_below HR0_2.out HB.out)|(with_reducible refine Kd.C_alloc ?_ _)|(with_reducible refine Kd.C_drewN ?_ _)|(with_reducible refine Kd.C_drew ?_)));(case side2=>exact HC0_2.out);rintro e w8 ⟨rfl,hb⟩;refine ⟨_,rfl,?_⟩;have n0_:=Aside0.mk (Kd.V_below (by (with_reducible repeat (first|apply Kd.V_alloc|apply Kd.V_drewN|apply Kd.V_drew));exact HO1.out) hb);have n1_:=Aside0.mk (Kd.V_below (by (with_reducible repeat (first|apply Kd.V_alloc|apply Kd.V_drewN|apply Kd.V_drew));exact HO2.out) hb);have n2_:=Aside0.mk (blk_below (g:=Ab) (o:=.cells #[.int .i64 a0_0,.int .i64 a0_1,.slice A0_2 l0_2.length c0_2,.int .i64 a0_3,.int .u32 a0_4] 25 (0,0)) (qDs12_ Aa.out) hb);have n3_:=Aside0.mk (below_step qBs12_3 hb);clear HO1;clear HO2;clear Aa;clear HB;have HO1:=n0_;have HO2:=n1_;have Aa:=n2_;have HB:=n3_;clear n0_ n1_ n2_ n3_;(try clear hb);(try clear hb2);(try clear hk);(try clear hi))|((with_reducible refine gate_dst (N:=25) rfl ?_);refine Kd.N_lit (Kd.slice 3 (Kd.int .i64)) _ 26 ?hg (N':=25) ?hd (xs:=([l1,l2] : List (List Int))) (inner:=[.slice A1 l1.length c1,.slice A2 l2.length c2]) (ok:=(fun k_=>((P1_ k_ ∨ P2_ k_) ∨ w.heap.size ≤ k_) ∧ k_ ≠ Ab)) (okp:=(fun k_=>((P1_ k_ ∨ P2_ k_) ∨ w.heap.size ≤ k_) ∧ k_ ≠ Ab)) ?hr ?hp (fun _ hk=>hk) ((show ∀ k_,w8.heap.size ≤ k_ → (fun k_=>((P1_ k_ ∨ P2_ k_) ∨ w.heap.size ≤ k_) ∧ k_ ≠ Ab) k_ from fun k_ hk=>⟨(.inr (Nat.le_trans (below_size qBs12_3) hk)),Kd.freshB (g:=Ab) (o:=.cells #[.int .i64 a0_0,.int .i64 a0_1,.slice A0_2 l0_2.length c0_2,.int .i64 a0_3,.int .u32 a0_4] 25 (0,0)) (qDs12_ Aa.out) k_ hk⟩) _ (Nat.le_refl _)) (Below.refl _ _) (Nat.le_refl _) (by simp) ?_;(case hd=>rfl);(case hg=>rfl);(case hr=>first|(go_simp;done)|(go_simp;rfl));(case hp=>first|exact (Reps.one (show Kd.FK (Kd.slice 3 (Kd.int .i64)) _ _ l1 [.slice A1 l1.length c1] from (Kd.FK_slice_mk (Kd.V_reads' (Kd.V_mono (ok':=(fun k_=>((P1_ k_ ∨ P2_ k_) ∨ w.heap.size ≤ k_) ∧ k_ ≠ Ab)) (HO1.out) (fun k_ hk=>⟨hk.1,hk.2⟩))).2.1 (Kd.V_F (Kd.V_mono (ok':=(fun k_=>((P1_ k_ ∨ P2_ k_) ∨ w.heap.size ≤ k_) ∧ k_ ≠ Ab)) (HO1.out) (fun k_ hk=>⟨hk.1,hk.2⟩))))) (Reps.one (show Kd.FK (Kd.slice 3 (Kd.int .i64)) _ _ l2 [.slice A2 l2.length c2] from (Kd.FK_slice_mk (Kd.V_reads' (Kd.V_mono (ok':=(fun k_=>((P1_ k_ ∨ P2_ k_) ∨ w.heap.size ≤ k_) ∧ k_ ≠ Ab)) (HO2.out) (fun k_ hk=>⟨hk.1,hk.2⟩))).2.1 (Kd.V_F (Kd.V_mono (ok':=(fun k_=>((P1_ k_ ∨ P2_ k_) ∨ w.heap.size ≤ k_) ∧ k_ ≠ Ab)) (HO2.out) (fun k_ hk=>⟨hk.1,hk.2⟩))))) (Reps.none _ _)))|exact (Reps.one (show Kd.FK (Kd.slice 3 (Kd.int .i64)) _ _ l1 [.slice A1 l1.length c1] from (Kd.FK_slice_mk (Kd.V_reads' (Kd.V_mono (ok':=(fun k_=>((P1_ k_ ∨ P2_ k_) ∨ w.heap.size ≤ k_) ∧ k_ ≠ Ab)) (HO1.out) (fun k_ hk=>⟨hk.1,hk.2⟩))).2.1 (Kd.V_F (Kd.V_mono (ok':=(fun k_=>((P1_ k_ ∨ P2_ k_) ∨ w.heap.size ≤ k_) ∧ k_ ≠ Ab)) (Kd.V_drewN HO1.out _) (fun k_ hk=>⟨hk.1,hk.2⟩))))) (Reps.one (show Kd.FK (Kd.slice 3 (Kd.int .i64)) _ _ l2 [.slice A2 l2.length c2] from (Kd.FK_slice_mk (Kd.V_reads' (Kd.V_mono (ok':=(fun k_=>((P1_ k_ ∨ P2_ k_) ∨ w.heap.size ≤ k_) ∧ k_ ≠ Ab)) (HO2.out) (fun k_ hk=>⟨hk.1,hk.2⟩))).2.1 (Kd.V_F (Kd.V_mono (ok':=(fun k_=>((P1_ k_ ∨ P2_ k_) ∨ w.heap.size ≤ k_) ∧ k_ ≠ Ab)) (Kd.V_drewN HO2.out _) (fun k_ hk=>⟨hk.1,hk.2⟩))))) (Reps.none _ _))));intro v188 w9 ho10 hb hg_ hnew_;clear hg_ hnew_;(first|rw [← Ny187.out] at ho10|(simp only [Int.reduceToNat] at ho10;rw [← Ny187.out] at ho10));have n0_:=Aside0.mk (Kd.V_elder' (by (with_reducible repeat (first|apply Kd.V_alloc|apply Kd.V_drewN|apply Kd.V_drew));exact HO1.out) (by first|exact Kd.N_base ho10|exact Kd.N_base (Kd.S_N ho10)) hb);have n1_:=Aside0.mk (Kd.V_elder' (by (with_reducible repeat (first|apply Kd.V_alloc|apply Kd.V_drewN|apply Kd.V_drew));exact HO2.out) (by first|exact Kd.N_base ho10|exact Kd.N_base (Kd.S_N ho10)) hb);have n2_:=Aside0.mk (Kd.N_lower ho10 (below_size qBs12_3));have n3_:=Aside0.mk (blk_below (g:=Ab) (o:=.cells #[.int .i64 a0_0,.int .i64 a0_1,.slice A0_2 l0_2.length c0_2,.int .i64 a0_3,.int .u32 a0_4] 25 (0,0)) (qDs12_ Aa.out) hb);have n4_:=Aside0.mk (below_step qBs12_3 hb);clear HO1;clear HO2;clear Aa;clear HB;have HO1:=n0_;have HO2:=n1_;have HO189:=n2_;have Aa:=n3_;have HB:=n4_;clear n0_ n1_ n2_ n3_ n4_;clear hb ho10;obtain ⟨Ao11,co11,eo11⟩:=Kd.N_slice HO189.out;subst eo11))
  go_loopg [27] k (fun kq v27 w'=>∃ (A5 : Int),v27 = .int .i64 A5 ∧ Aside0 (kinds_Same.l0 kq l1 l2 y187 (y187.length : Int) A5 a0_0 a0_1 l0_2 a0_3 a0_4 = some (r1,r2)) ∧ Aside0 (kq ≤ k) ∧ Aside0 (Kd.V (Kd.int .i64) 3 w' w.heap.size (fun k_=>((P1_ k_ ∨ P2_ k_) ∨ w.heap.size ≤ k_) ∧ some k_ ≠ ((.slice Ao11 y187.length co11) : Value).ownBlock ∧ k_ ≠ Ab) (.slice A1 l1.length c1) l1) ∧ Aside0 (Kd.V (Kd.int .i64) 3 w' w.heap.size (fun k_=>((P1_ k_ ∨ P2_ k_) ∨ w.heap.size ≤ k_) ∧ some k_ ≠ ((.slice Ao11 y187.length co11) : Value).ownBlock ∧ k_ ≠ Ab) (.slice A2 l2.length c2) l2) ∧ Aside0 (Kd.N (Kd.slice 3 (Kd.int .i64)) 26 w' w.heap.size (fun k_=>((P1_ k_ ∨ P2_ k_) ∨ w.heap.size ≤ k_) ∧ k_ ≠ Ab) (.slice Ao11 y187.length co11) y187) ∧ Aside0 (w'.heap[Ab]? = some (.cells #[.int .i64 a0_0,.int .i64 a0_1,(.slice A0_2 l0_2.length c0_2),.int .i64 a0_3,.int .u32 a0_4] 25 (0,0))) ∧ Aside0 (Below w.heap.size w w'))
  case atStart=>exact ⟨(0),(by first|rfl|(simp;done)|(simp [*];done)),H',⟨Nat.le_refl _⟩,⟨by (with_reducible repeat (first|apply Kd.V_alloc|apply Kd.V_drewN|apply Kd.V_drew));exact Kd.V_mono HO1.out (fun _ hk=>⟨hk.1.1,⟨hk.2,hk.1.2⟩⟩)⟩,⟨by (with_reducible repeat (first|apply Kd.V_alloc|apply Kd.V_drewN|apply Kd.V_drew));exact Kd.V_mono HO2.out (fun _ hk=>⟨hk.1.1,⟨hk.2,hk.1.2⟩⟩)⟩,⟨by (with_reducible repeat (first|apply Kd.N_alloc|apply Kd.N_drewN|apply Kd.N_drew));exact HO189.out⟩,⟨by (with_reducible repeat (first|refine blk_drewN ?_ _|refine blk_drew ?_|refine blk_alloc ?_ _));exact Aa.out⟩,⟨by repeat (first|(with_reducible first|exact HB.out|apply below_alloc|apply pw_below_drewN|apply below_drew1|refine below_set ?_ Bm.out)|exact HB.out)⟩⟩
  case round =>
   clear H'
   try clear c1
   try clear c2
   try clear p2
   try clear c5
   try clear c5b0
   try clear c5b1
   try clear hcz7_0
   try clear hcz7_1
   try clear hcz7_2
   try clear hcz7_3
   try clear hcz7_4
   try clear hfz7_0
   try clear hfz7_1
   try clear hfz7_2
   try clear hfz7_3
   try clear hfz7_4
   obtain ⟨A5,rfl,HA,HK1,A8,Ax,A0,Aa,HB⟩:=hrel
   cases gk with
   | zero=>exact absurd HA.out (by simp [kinds_Same.l0])
   | succ k1 =>
    have H:=HA.out
    clear HA
    simp only [kinds_Same.l0] at H
    by_cases c12 : A5 < (y187.length : Int)
    ·rw [if_pos c12] at H
     have c12b0 : decide (A5 < (y187.length : Int)) = true:=decide_eq_true c12
     clear c12
     by_cases c13 : 0 ≤ A5
     ·rw [if_pos c13] at H
      have c13b0 : decide (0 ≤ A5) = true:=decide_eq_true c13
      clear c13
      by_cases c14 : A5 < (y187.length : Int)
      ·rw [if_pos c14] at H
       have c14b0 : decide (A5 < (y187.length : Int)) = true:=decide_eq_true c14
       clear c14
       replace H:=Option.bind_eq_some_iff.mp H
       obtain ⟨t191,A150,H⟩:=H
       replace H : (if t191 = 0 then (kinds_Same.l0 k1 l1 l2 y187 (y187.length : Int) (wrap64 (A5 + 1)) a0_0 a0_1 l0_2 a0_3 a0_4) else (some (false,t191))) = some (r1,r2):=H
       have A15:=Aside0.mk A150
       clear A150
       by_cases c16 : t191 = 0
       ·rw [if_pos c16] at H
        have c16b0 : (t191 == 0) = true:=beq_iff_eq.mpr c16
        have c16b1 : (t191 != 0) = false:=bne_eq_false_iff_eq.mpr c16
        clear c16
        have H':=Aside0.mk H
        clear H
        have p190 : 0 ≤ (A5 : Int):=of_decide_eq_true qAs12_7
        have q190 : A5 < (y187.length : Int):=of_decide_eq_true qAs12_7
        obtain ⟨ad190,A190_0,c190_0,e190,hx190_0,hl190_0,hi190_0⟩:=at_L1 (Kd.N_reads' A0.out).2.2 A5 p190 q190
        cases e190
        obtain ⟨ce190,hce190,hMe190,hcc190⟩:=Kd.N_get A0.out [] A5 p190 (by first|exact q190|exact of_decide_eq_true qAs12_7|(have e_:=(Kd.N_reads' A0.out).1;omega))
        obtain ⟨ua190_0,uc190_0,rfl,ul190_0,ge190_0⟩:=Kd.FK_slice_open hMe190
        have hv190_0:=hcc190 0 _ rfl
        rw [Nat.add_zero,show ((Kd.slice 3 (Kd.int .i64))).sz = 1 from rfl,Nat.mul_one] at hv190_0
        replace hv190_0:=Option.some.inj (hv190_0.symm.trans hx190_0)
        injection hv190_0 with hva_ hvn_ hvc_
        rw [hva_] at ge190_0
        rw [hvc_] at ul190_0
        have HL190_0:=Aside0.mk (show Kd.V (Kd.int .i64) 3 _ w.heap.size _ _ (rd_L1 y187 A5) from Kd.V_mk ul190_0 ge190_0)
        clear hva_ hvn_ hvc_ ge190_0 ul190_0
        clear hcc190 hce190
        have Ba:=Aside0.mk hi190_0
        have HC190_0:=Aside0.mk hl190_0
        clear hi190_0 hl190_0
        replace p190:=eq_true p190
        replace q190:=eq_true q190
        have hcz17_0 : wr.cell? ⟨Ab,0,none⟩ = some (.int .i64 a0_0):=(blk_cell Aa.out 0).trans rfl
        have hcz17_1 : wr.cell? ⟨Ab,1,none⟩ = some (.int .i64 a0_1):=(blk_cell Aa.out 1).trans rfl
        have hcz17_2 : wr.cell? ⟨Ab,2,none⟩ = some (.slice A0_2 l0_2.length c0_2):=(blk_cell Aa.out 2).trans rfl
        have hcz17_3 : wr.cell? ⟨Ab,3,none⟩ = some (.int .i64 a0_3):=(blk_cell Aa.out 3).trans rfl
        have hcz17_4 : wr.cell? ⟨Ab,4,none⟩ = some (.int .u32 a0_4):=(blk_cell Aa.out 4).trans rfl
        have hfz17_0:=blk_frozen Aa.out 0
        have hfz17_1:=blk_frozen Aa.out 1
        have hfz17_2:=blk_frozen Aa.out 2
        have hfz17_3:=blk_frozen Aa.out 3
        have hfz17_4:=blk_frozen Aa.out 4
        go_wp2_with (first|((with_reducible refine gate_callee (f:=14) rfl ?_);refine goesL_ (some 34) rfl rfl Try.func14 (by kernel_rfl) rfl #[.int .i64 a0_1,.slice A190_0 (rd_L1 y187 A5).length c190_0] rfl qAs12_6 ?_;(with_reducible refine (machine_Words.calls a0_1 _ _ (rd_L1 y187 A5) t191 _ ?side1 ?side2 A15.out).mono ?_);(case side1=>repeat (first|exact (by repeat (first|(with_reducible exact Ba.out)|(with_reducible refine Kd.C_alloc ?_ _)|(with_reducible refine Kd.C_drewN ?_ _)|(with_reducible refine Kd.C_drew ?_)|exact Ba.out))|(with_reducible refine Kd.C_alloc ?_ _)|(with_reducible refine Kd.C_drewN ?_ _)|(with_reducible refine Kd.C_drew ?_)));(case side2=>exact HC190_0.out);rintro e w18 ⟨rfl,hb⟩;refine ⟨_,rfl,?_⟩;have n0_:=Aside0.mk (Kd.V_below (by (with_reducible repeat (first|apply Kd.V_alloc|apply Kd.V_drewN|apply Kd.V_drew));exact A8.out) hb);have n1_:=Aside0.mk (Kd.V_below (by (with_reducible repeat (first|apply Kd.V_alloc|apply Kd.V_drewN|apply Kd.V_drew));exact Ax.out) hb);have n2_:=Aside0.mk (Kd.N_below (qNs12_ A0.out) hb);have n3_:=Aside0.mk (Kd.V_below (by (with_reducible repeat (first|apply Kd.V_alloc|apply Kd.V_drewN|apply Kd.V_drew));exact HL190_0.out) hb);have n4_:=Aside0.mk (blk_below (g:=Ab) (o:=.cells #[.int .i64 a0_0,.int .i64 a0_1,.slice A0_2 l0_2.length c0_2,.int .i64 a0_3,.int .u32 a0_4] 25 (0,0)) (qDs12_ Aa.out) hb);have n5_:=Aside0.mk (Kd.C_below (by repeat (first|(with_reducible exact Ba.out)|(with_reducible refine Kd.C_alloc ?_ _)|(with_reducible refine Kd.C_drewN ?_ _)|(with_reducible refine Kd.C_drew ?_)|exact Ba.out)) hb);have n6_:=Aside0.mk (below_step qBs12_3 hb);clear A8;clear Ax;clear A0;clear HL190_0;clear Aa;clear Ba;clear HB;have A8:=n0_;have Ax:=n1_;have A0:=n2_;have HL190_0:=n3_;have Aa:=n4_;have Ba:=n5_;have HB:=n6_;clear n0_ n1_ n2_ n3_ n4_ n5_ n6_;(try clear hb);(try clear hb2);(try clear hk);(try clear hi)))
        go_roundg k1
        case measure=>have:=HK1.out;omega
        case rel=>exact ⟨(wrap64 (A5 + 1)),(by first|rfl|(simp;done)|(simp [*];done)),H',⟨by have:=HK1.out;omega⟩,⟨by (with_reducible repeat (first|apply Kd.V_alloc|apply Kd.V_drewN|apply Kd.V_drew));exact A8.out⟩,⟨by (with_reducible repeat (first|apply Kd.V_alloc|apply Kd.V_drewN|apply Kd.V_drew));exact Ax.out⟩,⟨by (with_reducible repeat (first|apply Kd.N_alloc|apply Kd.N_drewN|apply Kd.N_drew));exact A0.out⟩,⟨by (with_reducible repeat (first|refine blk_drewN ?_ _|refine blk_drew ?_|refine blk_alloc ?_ _));exact Aa.out⟩,⟨by repeat (first|(with_reducible first|exact HB.out|apply below_alloc|apply pw_below_drewN|apply below_drew1|refine below_set ?_ Bm.out)|exact HB.out)⟩⟩
       ·rw [if_neg c16] at H
        have c16b0 : (t191 == 0) = false:=beq_eq_false_iff_ne.mpr c16
        have c16b1 : (t191 != 0) = true:=bne_iff_ne.mpr c16
        simp only [Option.some.injEq,Prod.mk.injEq] at H
        obtain ⟨rfl,rfl⟩:=H
        have p190 : 0 ≤ (A5 : Int):=of_decide_eq_true qAs12_7
        have q190 : A5 < (y187.length : Int):=of_decide_eq_true qAs12_7
        obtain ⟨ad190,A190_0,c190_0,e190,hx190_0,hl190_0,hi190_0⟩:=at_L1 (Kd.N_reads' A0.out).2.2 A5 p190 q190
        cases e190
        obtain ⟨ce190,hce190,hMe190,hcc190⟩:=Kd.N_get A0.out [] A5 p190 (by first|exact q190|exact of_decide_eq_true qAs12_7|(have e_:=(Kd.N_reads' A0.out).1;omega))
        obtain ⟨ua190_0,uc190_0,rfl,ul190_0,ge190_0⟩:=Kd.FK_slice_open hMe190
        have hv190_0:=hcc190 0 _ rfl
        rw [Nat.add_zero,show ((Kd.slice 3 (Kd.int .i64))).sz = 1 from rfl,Nat.mul_one] at hv190_0
        replace hv190_0:=Option.some.inj (hv190_0.symm.trans hx190_0)
        injection hv190_0 with hva_ hvn_ hvc_
        rw [hva_] at ge190_0
        rw [hvc_] at ul190_0
        have HL190_0:=Aside0.mk (show Kd.V (Kd.int .i64) 3 _ w.heap.size _ _ (rd_L1 y187 A5) from Kd.V_mk ul190_0 ge190_0)
        clear hva_ hvn_ hvc_ ge190_0 ul190_0
        clear hcc190 hce190
        have Ba:=Aside0.mk hi190_0
        have HC190_0:=Aside0.mk hl190_0
        clear hi190_0 hl190_0
        replace p190:=eq_true p190
        replace q190:=eq_true q190
        have hcz19_0 : wr.cell? ⟨Ab,0,none⟩ = some (.int .i64 a0_0):=(blk_cell Aa.out 0).trans rfl
        have hcz19_1 : wr.cell? ⟨Ab,1,none⟩ = some (.int .i64 a0_1):=(blk_cell Aa.out 1).trans rfl
        have hcz19_2 : wr.cell? ⟨Ab,2,none⟩ = some (.slice A0_2 l0_2.length c0_2):=(blk_cell Aa.out 2).trans rfl
        have hcz19_3 : wr.cell? ⟨Ab,3,none⟩ = some (.int .i64 a0_3):=(blk_cell Aa.out 3).trans rfl
        have hcz19_4 : wr.cell? ⟨Ab,4,none⟩ = some (.int .u32 a0_4):=(blk_cell Aa.out 4).trans rfl
        have hfz19_0:=blk_frozen Aa.out 0
        have hfz19_1:=blk_frozen Aa.out 1
        have hfz19_2:=blk_frozen Aa.out 2
        have hfz19_3:=blk_frozen Aa.out 3
        have hfz19_4:=blk_frozen Aa.out 4
        go_wp2_with (first|((with_reducible refine gate_callee (f:=14) rfl ?_);refine goesL_ (some 34) rfl rfl Try.func14 (by kernel_rfl) rfl #[.int .i64 a0_1,.slice A190_0 (rd_L1 y187 A5).length c190_0] rfl qAs12_6 ?_;(with_reducible refine (machine_Words.calls a0_1 _ _ (rd_L1 y187 A5) t191 _ ?side1 ?side2 A15.out).mono ?_);(case side1=>repeat (first|exact (by repeat (first|(with_reducible exact Ba.out)|(with_reducible refine Kd.C_alloc ?_ _)|(with_reducible refine Kd.C_drewN ?_ _)|(with_reducible refine Kd.C_drew ?_)|exact Ba.out))|(with_reducible refine Kd.C_alloc ?_ _)|(with_reducible refine Kd.C_drewN ?_ _)|(with_reducible refine Kd.C_drew ?_)));(case side2=>exact HC190_0.out);rintro e w20 ⟨rfl,hb⟩;refine ⟨_,rfl,?_⟩;have n0_:=Aside0.mk (Kd.V_below (by (with_reducible repeat (first|apply Kd.V_alloc|apply Kd.V_drewN|apply Kd.V_drew));exact A8.out) hb);have n1_:=Aside0.mk (Kd.V_below (by (with_reducible repeat (first|apply Kd.V_alloc|apply Kd.V_drewN|apply Kd.V_drew));exact Ax.out) hb);have n2_:=Aside0.mk (Kd.N_below (qNs12_ A0.out) hb);have n3_:=Aside0.mk (Kd.V_below (by (with_reducible repeat (first|apply Kd.V_alloc|apply Kd.V_drewN|apply Kd.V_drew));exact HL190_0.out) hb);have n4_:=Aside0.mk (blk_below (g:=Ab) (o:=.cells #[.int .i64 a0_0,.int .i64 a0_1,.slice A0_2 l0_2.length c0_2,.int .i64 a0_3,.int .u32 a0_4] 25 (0,0)) (qDs12_ Aa.out) hb);have n5_:=Aside0.mk (Kd.C_below (by repeat (first|(with_reducible exact Ba.out)|(with_reducible refine Kd.C_alloc ?_ _)|(with_reducible refine Kd.C_drewN ?_ _)|(with_reducible refine Kd.C_drew ?_)|exact Ba.out)) hb);have n6_:=Aside0.mk (below_step qBs12_3 hb);clear A8;clear Ax;clear A0;clear HL190_0;clear Aa;clear Ba;clear HB;have A8:=n0_;have Ax:=n1_;have A0:=n2_;have HL190_0:=n3_;have Aa:=n4_;have Ba:=n5_;have HB:=n6_;clear n0_ n1_ n2_ n3_ n4_ n5_ n6_;(try clear hb);(try clear hb2);(try clear hk);(try clear hi)))
        go_ret2
        exact ⟨by first|rfl|(simp [errW_none,errW_some] <;> rfl)|(simp [*,errW_none,errW_some] <;> rfl),by repeat (first|(with_reducible first|exact HB.out|apply below_alloc|apply pw_below_drewN|apply below_drew1|refine below_set ?_ Bm.out)|exact HB.out)⟩
      ·rw [if_neg c14] at H
       exact absurd H (by simp)
     ·rw [if_neg c13] at H
      exact absurd H (by simp)
    ·rw [if_neg c12] at H
     have c12b0 : decide (A5 < (y187.length : Int)) = false:=decide_eq_false c12
     clear c12
     replace H:=Option.bind_eq_some_iff.mp H
     obtain ⟨⟨A6,A7,A3,A9,Bb⟩,A210,H⟩:=H
     replace H : ((kinds_still.f).bind fun bt199=>((kinds_still.f).bind fun bt206=>(kinds_Same.l1 k1 l1 l2 (l1.length : Int) 0 A6 A7 A3 A9 Bb bt199.1 bt199.2.1 bt199.2.2.1 bt199.2.2.2.1 bt199.2.2.2.2.1 bt199.2.2.2.2.2.1 bt199.2.2.2.2.2.2 bt206.1 bt206.2.1 bt206.2.2.1 bt206.2.2.2.1 bt206.2.2.2.2.1 bt206.2.2.2.2.2.1 bt206.2.2.2.2.2.2))) = some (r1,r2):=H
     have A21:=Aside0.mk A210
     clear A210
     replace H:=Option.bind_eq_some_iff.mp H
     obtain ⟨⟨Bp,Br,Bu,Bx,t203,t204,t205⟩,A220,H⟩:=H
     replace H : ((kinds_still.f).bind fun bt206=>(kinds_Same.l1 k1 l1 l2 (l1.length : Int) 0 A6 A7 A3 A9 Bb Bp Br Bu Bx t203 t204 t205 bt206.1 bt206.2.1 bt206.2.2.1 bt206.2.2.2.1 bt206.2.2.2.2.1 bt206.2.2.2.2.2.1 bt206.2.2.2.2.2.2)) = some (r1,r2):=H
     have A22:=Aside0.mk A220
     clear A220
     replace H:=Option.bind_eq_some_iff.mp H
     obtain ⟨⟨Bj,Bk,Bl,Bn,Bo,Bq,Bs⟩,A230,H⟩:=H
     replace H : (kinds_Same.l1 k1 l1 l2 (l1.length : Int) 0 A6 A7 A3 A9 Bb Bp Br Bu Bx t203 t204 t205 Bj Bk Bl Bn Bo Bq Bs) = some (r1,r2):=H
     have A23:=Aside0.mk A230
     clear A230
     have H':=Aside0.mk H
     clear H
     have hcz24_0 : wr.cell? ⟨Ab,0,none⟩ = some (.int .i64 a0_0):=(blk_cell Aa.out 0).trans rfl
     have hcz24_1 : wr.cell? ⟨Ab,1,none⟩ = some (.int .i64 a0_1):=(blk_cell Aa.out 1).trans rfl
     have hcz24_2 : wr.cell? ⟨Ab,2,none⟩ = some (.slice A0_2 l0_2.length c0_2):=(blk_cell Aa.out 2).trans rfl
     have hcz24_3 : wr.cell? ⟨Ab,3,none⟩ = some (.int .i64 a0_3):=(blk_cell Aa.out 3).trans rfl
     have hcz24_4 : wr.cell? ⟨Ab,4,none⟩ = some (.int .u32 a0_4):=(blk_cell Aa.out 4).trans rfl
     have hfz24_0:=blk_frozen Aa.out 0
     have hfz24_1:=blk_frozen Aa.out 1
     have hfz24_2:=blk_frozen Aa.out 2
     have hfz24_3:=blk_frozen Aa.out 3
     have hfz24_4:=blk_frozen Aa.out 4
     go_wp2_with (first|((with_reducible refine gate_callee (f:=15) rfl ?_);refine goesL_ (some 40) rfl rfl Try.func15 (by kernel_rfl) rfl #[.agg #[.int .i64 a0_0,.int .i64 a0_1,.slice A0_2 l0_2.length c0_2,.int .i64 a0_3,.int .u32 a0_4]] rfl qAs12_6 ?_;(with_reducible refine (least_Small.calls k1 a0_0 a0_1 _ _ l0_2 a0_3 a0_4 A6 A7 A3 A9 Bb _ ?side1 ?side2 A21.out).mono ?_);(case side1=>repeat (first|exact (Kd.C_below HR0_2.out HB.out)|(with_reducible refine Kd.C_alloc ?_ _)|(with_reducible refine Kd.C_drewN ?_ _)|(with_reducible refine Kd.C_drew ?_)));(case side2=>exact HC0_2.out);rintro e w25 ⟨v195,rfl,ho0,hb⟩;refine ⟨_,rfl,?_⟩;have n0_:=Aside0.mk (Kd.V_elder' (by (with_reducible repeat (first|apply Kd.V_alloc|apply Kd.V_drewN|apply Kd.V_drew));exact A8.out) (by first|exact Kd.N_base ho0|exact Kd.N_base (Kd.S_N ho0)) hb);have n1_:=Aside0.mk (Kd.V_elder' (by (with_reducible repeat (first|apply Kd.V_alloc|apply Kd.V_drewN|apply Kd.V_drew));exact Ax.out) (by first|exact Kd.N_base ho0|exact Kd.N_base (Kd.S_N ho0)) hb);have n2_:=Aside0.mk (Kd.N_elder' (qNs12_ A0.out) (by first|exact Kd.N_base ho0|exact Kd.N_base (Kd.S_N ho0)) hb);have n3_:=Aside0.mk (Kd.N_lower (Kd.N_mono (ok':=fun k_=>((P1_ k_ ∨ P2_ k_) ∨ w.heap.size ≤ k_) ∧ some k_ ≠ (.slice Ao11 y187.length co11 : Value).ownBlock ∧ k_ ≠ Ab) (Kd.S_N (Kd.S_bound ho0)) (fun k_ hk_=>⟨(.inr (Nat.le_trans (below_size qBs12_3) hk_.2.1)),(Kd.fresh' (Kd.N_lt (qNs12_ A0.out)) k_ hk_.2.1),(Kd.freshB (g:=Ab) (o:=.cells #[.int .i64 a0_0,.int .i64 a0_1,.slice A0_2 l0_2.length c0_2,.int .i64 a0_3,.int .u32 a0_4] 25 (0,0)) (qDs12_ Aa.out) k_ hk_.2.1)⟩)) (below_size qBs12_3));have n4_:=Aside0.mk (blk_below (g:=Ab) (o:=.cells #[.int .i64 a0_0,.int .i64 a0_1,.slice A0_2 l0_2.length c0_2,.int .i64 a0_3,.int .u32 a0_4] 25 (0,0)) (qDs12_ Aa.out) hb);have n5_:=Aside0.mk (below_step qBs12_3 hb);clear A8;clear Ax;clear A0;clear Aa;clear HB;have A8:=n0_;have Ax:=n1_;have A0:=n2_;have Bi:=n3_;have Aa:=n4_;have HB:=n5_;clear n0_ n1_ n2_ n3_ n4_ n5_;(try clear hb);(try clear hb2);(try clear hk);(try clear hi);(try clear ho0);have hcz26_0 : w25.cell? ⟨Ab,0,none⟩ = some (.int .i64 a0_0):=(blk_cell Aa.out 0).trans rfl;have hcz26_1 : w25.cell? ⟨Ab,1,none⟩ = some (.int .i64 a0_1):=(blk_cell Aa.out 1).trans rfl;have hcz26_2 : w25.cell? ⟨Ab,2,none⟩ = some (.slice A0_2 l0_2.length c0_2):=(blk_cell Aa.out 2).trans rfl;have hcz26_3 : w25.cell? ⟨Ab,3,none⟩ = some (.int .i64 a0_3):=(blk_cell Aa.out 3).trans rfl;have hcz26_4 : w25.cell? ⟨Ab,4,none⟩ = some (.int .u32 a0_4):=(blk_cell Aa.out 4).trans rfl;have hfz26_0:=blk_frozen Aa.out 0;have hfz26_1:=blk_frozen Aa.out 1;have hfz26_2:=blk_frozen Aa.out 2;have hfz26_3:=blk_frozen Aa.out 3;have hfz26_4:=blk_frozen Aa.out 4;obtain ⟨Be,Bf,eo27⟩:=Kd.N_slice Bi.out;subst eo27)|((with_reducible refine gate_callee (f:=16) rfl ?_);refine goesL_ (some 41) rfl rfl Try.func16 (by kernel_rfl) rfl #[] rfl qAs12_6 ?_;(with_reducible refine (kinds_still.calls  Bp Br Bu Bx t203 t204 t205 _ A22.out).mono ?_);rintro e w28 ⟨rfl,hb⟩;refine ⟨_,rfl,?_⟩;have n0_:=Aside0.mk (Kd.V_below (by (with_reducible repeat (first|apply Kd.V_alloc|apply Kd.V_drewN|apply Kd.V_drew));exact (Kd.V_mono (Kd.V_far (p:=⟨Ab,4,none⟩) (Kd.V_far (p:=⟨Ab,3,none⟩) (Kd.V_far (p:=⟨Ab,2,none⟩) (Kd.V_far (p:=⟨Ab,1,none⟩) (Kd.V_far (p:=⟨Ab,0,none⟩) (Kd.V_mono A8.out (fun k_ hk=>(⟨hk,hk.1.2.2⟩ : _ ∧ k_ ≠ Ab))) (fun _ hk=>hk.2) (.int .i64 A6)) (fun _ hk=>hk.2) (.int .i64 A7)) (fun _ hk=>hk.2) (.slice Be A3.length Bf)) (fun _ hk=>hk.2) (.int .i64 A9)) (fun _ hk=>hk.2) (.int .u32 Bb)) (fun _ h_=>h_.1))) hb);have n1_:=Aside0.mk (Kd.V_below (by (with_reducible repeat (first|apply Kd.V_alloc|apply Kd.V_drewN|apply Kd.V_drew));exact (Kd.V_mono (Kd.V_far (p:=⟨Ab,4,none⟩) (Kd.V_far (p:=⟨Ab,3,none⟩) (Kd.V_far (p:=⟨Ab,2,none⟩) (Kd.V_far (p:=⟨Ab,1,none⟩) (Kd.V_far (p:=⟨Ab,0,none⟩) (Kd.V_mono Ax.out (fun k_ hk=>(⟨hk,hk.1.2.2⟩ : _ ∧ k_ ≠ Ab))) (fun _ hk=>hk.2) (.int .i64 A6)) (fun _ hk=>hk.2) (.int .i64 A7)) (fun _ hk=>hk.2) (.slice Be A3.length Bf)) (fun _ hk=>hk.2) (.int .i64 A9)) (fun _ hk=>hk.2) (.int .u32 Bb)) (fun _ h_=>h_.1))) hb);have n2_:=Aside0.mk (Kd.N_below (by (with_reducible repeat (first|apply Kd.N_alloc|apply Kd.N_drewN|apply Kd.N_drew));exact (Kd.N_mono (Kd.N_far (p:=⟨Ab,4,none⟩) (Kd.N_far (p:=⟨Ab,3,none⟩) (Kd.N_far (p:=⟨Ab,2,none⟩) (Kd.N_far (p:=⟨Ab,1,none⟩) (Kd.N_far (p:=⟨Ab,0,none⟩) (Kd.N_mono A0.out (fun k_ hk=>(⟨hk,hk.1.2⟩ : _ ∧ k_ ≠ Ab))) (fun _ hk=>hk.2) (.int .i64 A6)) (fun _ hk=>hk.2) (.int .i64 A7)) (fun _ hk=>hk.2) (.slice Be A3.length Bf)) (fun _ hk=>hk.2) (.int .i64 A9)) (fun _ hk=>hk.2) (.int .u32 Bb)) (fun _ h_=>h_.1))) hb);have n3_:=Aside0.mk (Kd.N_below (by (with_reducible repeat (first|apply Kd.N_alloc|apply Kd.N_drewN|apply Kd.N_drew));exact (Kd.N_mono (Kd.N_far (p:=⟨Ab,4,none⟩) (Kd.N_far (p:=⟨Ab,3,none⟩) (Kd.N_far (p:=⟨Ab,2,none⟩) (Kd.N_far (p:=⟨Ab,1,none⟩) (Kd.N_far (p:=⟨Ab,0,none⟩) (Kd.N_mono Bi.out (fun k_ hk=>(⟨hk,hk.2.2⟩ : _ ∧ k_ ≠ Ab))) (fun _ hk=>hk.2) (.int .i64 A6)) (fun _ hk=>hk.2) (.int .i64 A7)) (fun _ hk=>hk.2) (.slice Be A3.length Bf)) (fun _ hk=>hk.2) (.int .i64 A9)) (fun _ hk=>hk.2) (.int .u32 Bb)) (fun _ h_=>h_.1))) hb);have n4_:=Aside0.mk (blk_below (g:=Ab) (o:=.cells #[.int .i64 A6,.int .i64 A7,.slice Be A3.length Bf,.int .i64 A9,.int .u32 Bb] 25 (0,0)) (by (with_reducible repeat (first|refine blk_drewN ?_ _|refine blk_drew ?_|refine blk_alloc ?_ _));refine blk_put (cs:=#[.int .i64 A6,.int .i64 A7,.slice Be A3.length Bf,.int .i64 A9,.int .u32 a0_4]) ?_ 4 _ rfl;(with_reducible repeat (first|refine blk_drewN ?_ _|refine blk_drew ?_|refine blk_alloc ?_ _));refine blk_put (cs:=#[.int .i64 A6,.int .i64 A7,.slice Be A3.length Bf,.int .i64 a0_3,.int .u32 a0_4]) ?_ 3 _ rfl;(with_reducible repeat (first|refine blk_drewN ?_ _|refine blk_drew ?_|refine blk_alloc ?_ _));refine blk_put (cs:=#[.int .i64 A6,.int .i64 A7,.slice A0_2 l0_2.length c0_2,.int .i64 a0_3,.int .u32 a0_4]) ?_ 2 _ rfl;(with_reducible repeat (first|refine blk_drewN ?_ _|refine blk_drew ?_|refine blk_alloc ?_ _));refine blk_put (cs:=#[.int .i64 A6,.int .i64 a0_1,.slice A0_2 l0_2.length c0_2,.int .i64 a0_3,.int .u32 a0_4]) ?_ 1 _ rfl;(with_reducible repeat (first|refine blk_drewN ?_ _|refine blk_drew ?_|refine blk_alloc ?_ _));refine blk_put (cs:=#[.int .i64 a0_0,.int .i64 a0_1,.slice A0_2 l0_2.length c0_2,.int .i64 a0_3,.int .u32 a0_4]) ?_ 0 _ rfl;(with_reducible repeat (first|refine blk_drewN ?_ _|refine blk_drew ?_|refine blk_alloc ?_ _));exact Aa.out) hb);have n5_:=Aside0.mk (below_step qBs12_3 hb);clear A8;clear Ax;clear A0;clear Bi;clear Aa;clear HB;have A8:=n0_;have Ax:=n1_;have A0:=n2_;have Bi:=n3_;have Aa:=n4_;have HB:=n5_;clear n0_ n1_ n2_ n3_ n4_ n5_;(try clear hb);(try clear hb2);(try clear hk);(try clear hi))|((with_reducible refine gate_callee (f:=16) rfl ?_);refine goesL_ (some 42) rfl rfl Try.func16 (by kernel_rfl) rfl #[] rfl qAs12_6 ?_;(with_reducible refine (kinds_still.calls  Bj Bk Bl Bn Bo Bq Bs _ A23.out).mono ?_);rintro e w29 ⟨rfl,hb⟩;refine ⟨_,rfl,?_⟩;have n0_:=Aside0.mk (Kd.V_below (by (with_reducible repeat (first|apply Kd.V_alloc|apply Kd.V_drewN|apply Kd.V_drew));exact A8.out) hb);have n1_:=Aside0.mk (Kd.V_below (by (with_reducible repeat (first|apply Kd.V_alloc|apply Kd.V_drewN|apply Kd.V_drew));exact Ax.out) hb);have n2_:=Aside0.mk (Kd.N_below (qNs12_ A0.out) hb);have n3_:=Aside0.mk (Kd.N_below (qNs12_ Bi.out) hb);have n4_:=Aside0.mk (blk_below (g:=Ab) (o:=.cells #[.int .i64 A6,.int .i64 A7,.slice Be A3.length Bf,.int .i64 A9,.int .u32 Bb] 25 (0,0)) (qDs12_ Aa.out) hb);have n5_:=Aside0.mk (below_step qBs12_3 hb);clear A8;clear Ax;clear A0;clear Bi;clear Aa;clear HB;have A8:=n0_;have Ax:=n1_;have A0:=n2_;have Bi:=n3_;have Aa:=n4_;have HB:=n5_;clear n0_ n1_ n2_ n3_ n4_ n5_;(try clear hb);(try clear hb2);(try clear hk);(try clear hi))|((with_reducible refine gate_dst (N:=12) rfl ?_);refine box_event ?hg (N:=12) ?hd (cs:=#[.int .i64 0,.int .i64 0,.int .i64 0,.int .i64 0,.int .i64 0,.int .i64 0,.int .i64 0]) (t:=44) ?hr ?_;(case hd=>rfl);(case hg=>rfl);(case hr=>first|(go_simp;done)|(go_simp;rfl));intro Ac hg w30 hbox hb;have n0_:=Aside0.mk (Kd.V_below (Kd.V_elderB (by (with_reducible repeat (first|apply Kd.V_alloc|apply Kd.V_drewN|apply Kd.V_drew));exact A8.out) Ac (Nat.le_of_eq hg.symm)) hb);have n1_:=Aside0.mk (Kd.V_below (Kd.V_elderB (by (with_reducible repeat (first|apply Kd.V_alloc|apply Kd.V_drewN|apply Kd.V_drew));exact Ax.out) Ac (Nat.le_of_eq hg.symm)) hb);have n2_:=Aside0.mk (Kd.N_below (Kd.N_elderB (qNs12_ A0.out) Ac (Nat.le_of_eq hg.symm)) hb);have n3_:=Aside0.mk (Kd.N_below (Kd.N_elderB (qNs12_ Bi.out) Ac (Nat.le_of_eq hg.symm)) hb);have n4_:=Aside0.mk (blk_below (g:=Ab) (o:=.cells #[.int .i64 A6,.int .i64 A7,.slice Be A3.length Bf,.int .i64 A9,.int .u32 Bb] 25 (0,0)) (qDs12_ Aa.out) hb);have n5_:=Aside0.mk (below_step qBs12_3 hb);have n6_:=Aside0.mk (hbox);have n7_:=Aside0.mk ((by rw [hg];exact (below_size qBs12_3) : w.heap.size ≤ Ac));have n8_:=Aside0.mk ((by rw [hg];exact (below_size qBs12_3) : w.heap.size ≤ Ac));have n9_:=Aside0.mk ((by rw [hg];exact Nat.ne_of_lt (blk_lt (g:=Ab) (o:=.cells #[.int .i64 A6,.int .i64 A7,.slice Be A3.length Bf,.int .i64 A9,.int .u32 Bb] 25 (0,0)) (qDs12_ Aa.out)) : Ab ≠ Ac));have n10_:=Aside0.mk ((by rw [hg];exact Nat.ne_of_gt (blk_lt (g:=Ab) (o:=.cells #[.int .i64 A6,.int .i64 A7,.slice Be A3.length Bf,.int .i64 A9,.int .u32 Bb] 25 (0,0)) (qDs12_ Aa.out)) : Ac ≠ Ab));clear A8;clear Ax;clear A0;clear Bi;clear Aa;clear HB;have A8:=n0_;have Ax:=n1_;have A0:=n2_;have Bi:=n3_;have Aa:=n4_;have HB:=n5_;have Ad:=n6_;have GW213:=n7_;have GE213:=n8_;have Ak:=n9_;have Bc:=n10_;clear n0_ n1_ n2_ n3_ n4_ n5_ n6_ n7_ n8_ n9_ n10_;clear hb hbox hg)|((with_reducible refine gate_dst (N:=13) rfl ?_);refine box_event ?hg (N:=13) ?hd (cs:=#[.int .i64 0,.int .i64 0,.int .i64 0,.int .i64 0,.int .i64 0,.int .i64 0,.int .i64 0]) (t:=44) ?hr ?_;(case hd=>rfl);(case hg=>rfl);(case hr=>first|(go_simp;done)|(go_simp;rfl));intro Ae hg w31 hbox hb;have n0_:=Aside0.mk (Kd.V_below (Kd.V_elderB (by (with_reducible repeat (first|apply Kd.V_alloc|apply Kd.V_drewN|apply Kd.V_drew));exact A8.out) Ae (Nat.le_of_eq hg.symm)) hb);have n1_:=Aside0.mk (Kd.V_below (Kd.V_elderB (by (with_reducible repeat (first|apply Kd.V_alloc|apply Kd.V_drewN|apply Kd.V_drew));exact Ax.out) Ae (Nat.le_of_eq hg.symm)) hb);have n2_:=Aside0.mk (Kd.N_below (Kd.N_elderB (qNs12_ A0.out) Ae (Nat.le_of_eq hg.symm)) hb);have n3_:=Aside0.mk (Kd.N_below (Kd.N_elderB (qNs12_ Bi.out) Ae (Nat.le_of_eq hg.symm)) hb);have n4_:=Aside0.mk (blk_below (g:=Ab) (o:=.cells #[.int .i64 A6,.int .i64 A7,.slice Be A3.length Bf,.int .i64 A9,.int .u32 Bb] 25 (0,0)) (qDs12_ Aa.out) hb);have n5_:=Aside0.mk (blk_below (g:=Ac) (o:=.cells #[.int .i64 0,.int .i64 0,.int .i64 0,.int .i64 0,.int .i64 0,.int .i64 0,.int .i64 0] 44 (0,0)) (qDs12_ Ad.out) hb);have n6_:=Aside0.mk (below_step qBs12_4 hb);have n7_:=Aside0.mk (hbox);have n8_:=Aside0.mk ((by rw [hg];exact (below_size qBs12_4) : w.heap.size ≤ Ae));have n9_:=Aside0.mk ((by rw [hg];exact (below_size qBs12_4) : w.heap.size ≤ Ae));have n10_:=Aside0.mk ((by rw [hg];exact Nat.ne_of_lt (blk_lt (g:=Ab) (o:=.cells #[.int .i64 A6,.int .i64 A7,.slice Be A3.length Bf,.int .i64 A9,.int .u32 Bb] 25 (0,0)) (qDs12_ Aa.out)) : Ab ≠ Ae));have n11_:=Aside0.mk ((by rw [hg];exact Nat.ne_of_gt (blk_lt (g:=Ab) (o:=.cells #[.int .i64 A6,.int .i64 A7,.slice Be A3.length Bf,.int .i64 A9,.int .u32 Bb] 25 (0,0)) (qDs12_ Aa.out)) : Ae ≠ Ab));have n12_:=Aside0.mk ((by rw [hg];exact Nat.ne_of_lt (blk_lt (g:=Ac) (o:=.cells #[.int .i64 0,.int .i64 0,.int .i64 0,.int .i64 0,.int .i64 0,.int .i64 0,.int .i64 0] 44 (0,0)) (qDs12_ Ad.out)) : Ac ≠ Ae));have n13_:=Aside0.mk ((by rw [hg];exact Nat.ne_of_gt (blk_lt (g:=Ac) (o:=.cells #[.int .i64 0,.int .i64 0,.int .i64 0,.int .i64 0,.int .i64 0,.int .i64 0,.int .i64 0] 44 (0,0)) (qDs12_ Ad.out)) : Ae ≠ Ac));clear A8;clear Ax;clear A0;clear Bi;clear Aa;clear Ad;clear HB;have A8:=n0_;have Ax:=n1_;have A0:=n2_;have Bi:=n3_;have Aa:=n4_;have Ad:=n5_;have HB:=n6_;have Af:=n7_;have GW214:=n8_;have GE214:=n9_;have Al:=n10_;have Bd:=n11_;have Ag:=n12_;have Ah:=n13_;clear n0_ n1_ n2_ n3_ n4_ n5_ n6_ n7_ n8_ n9_ n10_ n11_ n12_ n13_;clear hb hbox hg;have hnb32:=Bc.out;have hnc32:=Ak.out;have hnb33:=Ag.out;have hnc33:=Ah.out;have hcz34_0 : w31.cell? ⟨Ac,0,none⟩ = some (.int .i64 0):=(blk_cell Ad.out 0).trans rfl;have hcz34_1 : w31.cell? ⟨Ac,1,none⟩ = some (.int .i64 0):=(blk_cell Ad.out 1).trans rfl;have hcz34_2 : w31.cell? ⟨Ac,2,none⟩ = some (.int .i64 0):=(blk_cell Ad.out 2).trans rfl;have hcz34_3 : w31.cell? ⟨Ac,3,none⟩ = some (.int .i64 0):=(blk_cell Ad.out 3).trans rfl;have hcz34_4 : w31.cell? ⟨Ac,4,none⟩ = some (.int .i64 0):=(blk_cell Ad.out 4).trans rfl;have hcz34_5 : w31.cell? ⟨Ac,5,none⟩ = some (.int .i64 0):=(blk_cell Ad.out 5).trans rfl;have hcz34_6 : w31.cell? ⟨Ac,6,none⟩ = some (.int .i64 0):=(blk_cell Ad.out 6).trans rfl;have hfz34_0:=blk_frozen Ad.out 0;have hfz34_1:=blk_frozen Ad.out 1;have hfz34_2:=blk_frozen Ad.out 2;have hfz34_3:=blk_frozen Ad.out 3;have hfz34_4:=blk_frozen Ad.out 4;have hfz34_5:=blk_frozen Ad.out 5;have hfz34_6:=blk_frozen Ad.out 6;have hnb35:=Bd.out;have hnc35:=Al.out;have hcz36_0 : w31.cell? ⟨Ae,0,none⟩ = some (.int .i64 0):=(blk_cell Af.out 0).trans rfl;have hcz36_1 : w31.cell? ⟨Ae,1,none⟩ = some (.int .i64 0):=(blk_cell Af.out 1).trans rfl;have hcz36_2 : w31.cell? ⟨Ae,2,none⟩ = some (.int .i64 0):=(blk_cell Af.out 2).trans rfl;have hcz36_3 : w31.cell? ⟨Ae,3,none⟩ = some (.int .i64 0):=(blk_cell Af.out 3).trans rfl;have hcz36_4 : w31.cell? ⟨Ae,4,none⟩ = some (.int .i64 0):=(blk_cell Af.out 4).trans rfl;have hcz36_5 : w31.cell? ⟨Ae,5,none⟩ = some (.int .i64 0):=(blk_cell Af.out 5).trans rfl;have hcz36_6 : w31.cell? ⟨Ae,6,none⟩ = some (.int .i64 0):=(blk_cell Af.out 6).trans rfl;have hfz36_0:=blk_frozen Af.out 0;have hfz36_1:=blk_frozen Af.out 1;have hfz36_2:=blk_frozen Af.out 2;have hfz36_3:=blk_frozen Af.out 3;have hfz36_4:=blk_frozen Af.out 4;have hfz36_5:=blk_frozen Af.out 5;have hfz36_6:=blk_frozen Af.out 6))
     go_loopg [45] k1 (fun kq v45 w'=>∃ (Bg : Int) (Ar : Int) (Aq : Int) (Ap : Int) (Ao : Int) (An : Int) (Am : Int) (Aj : Int),v45 = .int .i64 Bg ∧ Aside0 (kinds_Same.l1 kq l1 l2 (l1.length : Int) Bg A6 A7 A3 A9 Bb Ar Aq Ap Ao An Am Aj Bj Bk Bl Bn Bo Bq Bs = some (r1,r2)) ∧ Aside0 (kq ≤ k1) ∧ Aside0 (Kd.V (Kd.int .i64) 3 w' w.heap.size (fun k_=>((P1_ k_ ∨ P2_ k_) ∨ w.heap.size ≤ k_) ∧ some k_ ≠ ((.slice Be A3.length Bf) : Value).ownBlock ∧ k_ ≠ Ab ∧ k_ ≠ Ac ∧ k_ ≠ Ae) (.slice A1 l1.length c1) l1) ∧ Aside0 (Kd.V (Kd.int .i64) 3 w' w.heap.size (fun k_=>((P1_ k_ ∨ P2_ k_) ∨ w.heap.size ≤ k_) ∧ some k_ ≠ ((.slice Be A3.length Bf) : Value).ownBlock ∧ k_ ≠ Ab ∧ k_ ≠ Ac ∧ k_ ≠ Ae) (.slice A2 l2.length c2) l2) ∧ Aside0 (Kd.N (Kd.slice 3 (Kd.int .i64)) 26 w' w.heap.size (fun k_=>((P1_ k_ ∨ P2_ k_) ∨ w.heap.size ≤ k_) ∧ k_ ≠ Ab ∧ k_ ≠ Ac ∧ k_ ≠ Ae) (.slice Be A3.length Bf) A3) ∧ Aside0 (w'.heap[Ab]? = some (.cells #[.int .i64 A6,.int .i64 A7,(.slice Be A3.length Bf),.int .i64 A9,.int .u32 Bb] 25 (0,0))) ∧ Aside0 (w'.heap[Ac]? = some (.cells #[.int .i64 Ar,.int .i64 Aq,.int .i64 Ap,.int .i64 Ao,.int .i64 An,.int .i64 Am,.int .i64 Aj] 44 (0,0))) ∧ Aside0 (w'.heap[Ae]? = some (.cells #[.int .i64 Bj,.int .i64 Bk,.int .i64 Bl,.int .i64 Bn,.int .i64 Bo,.int .i64 Bq,.int .i64 Bs] 44 (0,0))) ∧ Aside0 (Below w.heap.size w w'))
     case atStart=>exact ⟨(0),(Bp),(Br),(Bu),(Bx),(t203),(t204),(t205),(by first|rfl|(simp;done)|(simp [*];done)),H',⟨Nat.le_refl _⟩,⟨by (with_reducible repeat (first|apply Kd.V_alloc|apply Kd.V_drewN|apply Kd.V_drew));exact Kd.V_mono (Kd.V_far (p:=⟨Ae,6,none⟩) (Kd.V_far (p:=⟨Ae,5,none⟩) (Kd.V_far (p:=⟨Ae,4,none⟩) (Kd.V_far (p:=⟨Ae,3,none⟩) (Kd.V_far (p:=⟨Ae,2,none⟩) (Kd.V_far (p:=⟨Ae,1,none⟩) (Kd.V_far (p:=⟨Ae,0,none⟩) (Kd.V_far (p:=⟨Ac,6,none⟩) (Kd.V_far (p:=⟨Ac,5,none⟩) (Kd.V_far (p:=⟨Ac,4,none⟩) (Kd.V_far (p:=⟨Ac,3,none⟩) (Kd.V_far (p:=⟨Ac,2,none⟩) (Kd.V_far (p:=⟨Ac,1,none⟩) (Kd.V_far (p:=⟨Ac,0,none⟩) (Kd.V_mono (Kd.V_mono A8.out (fun k_ hk=>(⟨hk,hk.1.2⟩ : _ ∧ k_ ≠ Ac))) (fun k_ hk=>(⟨hk,hk.1.2⟩ : _ ∧ k_ ≠ Ae))) (fun _ hk=>hk.1.2) (.int .i64 Bp)) (fun _ hk=>hk.1.2) (.int .i64 Br)) (fun _ hk=>hk.1.2) (.int .i64 Bu)) (fun _ hk=>hk.1.2) (.int .i64 Bx)) (fun _ hk=>hk.1.2) (.int .i64 t203)) (fun _ hk=>hk.1.2) (.int .i64 t204)) (fun _ hk=>hk.1.2) (.int .i64 t205)) (fun _ hk=>hk.2) (.int .i64 Bj)) (fun _ hk=>hk.2) (.int .i64 Bk)) (fun _ hk=>hk.2) (.int .i64 Bl)) (fun _ hk=>hk.2) (.int .i64 Bn)) (fun _ hk=>hk.2) (.int .i64 Bo)) (fun _ hk=>hk.2) (.int .i64 Bq)) (fun _ hk=>hk.2) (.int .i64 Bs)) (fun _ hk=>⟨hk.1.1.1.1.1.1,⟨hk.1.1.1.1.2,⟨hk.1.1.1.1.1.2.2,⟨hk.1.1.1.2,hk.1.1.2⟩⟩⟩⟩)⟩,⟨by (with_reducible repeat (first|apply Kd.V_alloc|apply Kd.V_drewN|apply Kd.V_drew));exact Kd.V_mono (Kd.V_far (p:=⟨Ae,6,none⟩) (Kd.V_far (p:=⟨Ae,5,none⟩) (Kd.V_far (p:=⟨Ae,4,none⟩) (Kd.V_far (p:=⟨Ae,3,none⟩) (Kd.V_far (p:=⟨Ae,2,none⟩) (Kd.V_far (p:=⟨Ae,1,none⟩) (Kd.V_far (p:=⟨Ae,0,none⟩) (Kd.V_far (p:=⟨Ac,6,none⟩) (Kd.V_far (p:=⟨Ac,5,none⟩) (Kd.V_far (p:=⟨Ac,4,none⟩) (Kd.V_far (p:=⟨Ac,3,none⟩) (Kd.V_far (p:=⟨Ac,2,none⟩) (Kd.V_far (p:=⟨Ac,1,none⟩) (Kd.V_far (p:=⟨Ac,0,none⟩) (Kd.V_mono (Kd.V_mono Ax.out (fun k_ hk=>(⟨hk,hk.1.2⟩ : _ ∧ k_ ≠ Ac))) (fun k_ hk=>(⟨hk,hk.1.2⟩ : _ ∧ k_ ≠ Ae))) (fun _ hk=>hk.1.2) (.int .i64 Bp)) (fun _ hk=>hk.1.2) (.int .i64 Br)) (fun _ hk=>hk.1.2) (.int .i64 Bu)) (fun _ hk=>hk.1.2) (.int .i64 Bx)) (fun _ hk=>hk.1.2) (.int .i64 t203)) (fun _ hk=>hk.1.2) (.int .i64 t204)) (fun _ hk=>hk.1.2) (.int .i64 t205)) (fun _ hk=>hk.2) (.int .i64 Bj)) (fun _ hk=>hk.2) (.int .i64 Bk)) (fun _ hk=>hk.2) (.int .i64 Bl)) (fun _ hk=>hk.2) (.int .i64 Bn)) (fun _ hk=>hk.2) (.int .i64 Bo)) (fun _ hk=>hk.2) (.int .i64 Bq)) (fun _ hk=>hk.2) (.int .i64 Bs)) (fun _ hk=>⟨hk.1.1.1.1.1.1,⟨hk.1.1.1.1.2,⟨hk.1.1.1.1.1.2.2,⟨hk.1.1.1.2,hk.1.1.2⟩⟩⟩⟩)⟩,⟨by (with_reducible repeat (first|apply Kd.N_alloc|apply Kd.N_drewN|apply Kd.N_drew));exact Kd.N_mono (Kd.N_far (p:=⟨Ae,6,none⟩) (Kd.N_far (p:=⟨Ae,5,none⟩) (Kd.N_far (p:=⟨Ae,4,none⟩) (Kd.N_far (p:=⟨Ae,3,none⟩) (Kd.N_far (p:=⟨Ae,2,none⟩) (Kd.N_far (p:=⟨Ae,1,none⟩) (Kd.N_far (p:=⟨Ae,0,none⟩) (Kd.N_far (p:=⟨Ac,6,none⟩) (Kd.N_far (p:=⟨Ac,5,none⟩) (Kd.N_far (p:=⟨Ac,4,none⟩) (Kd.N_far (p:=⟨Ac,3,none⟩) (Kd.N_far (p:=⟨Ac,2,none⟩) (Kd.N_far (p:=⟨Ac,1,none⟩) (Kd.N_far (p:=⟨Ac,0,none⟩) (Kd.N_mono (Kd.N_mono Bi.out (fun k_ hk=>(⟨hk,hk.1.2⟩ : _ ∧ k_ ≠ Ac))) (fun k_ hk=>(⟨hk,hk.1.2⟩ : _ ∧ k_ ≠ Ae))) (fun _ hk=>hk.1.2) (.int .i64 Bp)) (fun _ hk=>hk.1.2) (.int .i64 Br)) (fun _ hk=>hk.1.2) (.int .i64 Bu)) (fun _ hk=>hk.1.2) (.int .i64 Bx)) (fun _ hk=>hk.1.2) (.int .i64 t203)) (fun _ hk=>hk.1.2) (.int .i64 t204)) (fun _ hk=>hk.1.2) (.int .i64 t205)) (fun _ hk=>hk.2) (.int .i64 Bj)) (fun _ hk=>hk.2) (.int .i64 Bk)) (fun _ hk=>hk.2) (.int .i64 Bl)) (fun _ hk=>hk.2) (.int .i64 Bn)) (fun _ hk=>hk.2) (.int .i64 Bo)) (fun _ hk=>hk.2) (.int .i64 Bq)) (fun _ hk=>hk.2) (.int .i64 Bs)) (fun _ hk=>⟨hk.1.1.1.1.1,⟨hk.1.1.1.1.2.2,⟨hk.1.1.1.2,hk.1.1.2⟩⟩⟩)⟩,⟨by (with_reducible repeat (first|refine blk_drewN ?_ _|refine blk_drew ?_|refine blk_alloc ?_ _));refine blk_far ?_ Al.out _;(with_reducible repeat (first|refine blk_drewN ?_ _|refine blk_drew ?_|refine blk_alloc ?_ _));refine blk_far ?_ Al.out _;(with_reducible repeat (first|refine blk_drewN ?_ _|refine blk_drew ?_|refine blk_alloc ?_ _));refine blk_far ?_ Al.out _;(with_reducible repeat (first|refine blk_drewN ?_ _|refine blk_drew ?_|refine blk_alloc ?_ _));refine blk_far ?_ Al.out _;(with_reducible repeat (first|refine blk_drewN ?_ _|refine blk_drew ?_|refine blk_alloc ?_ _));refine blk_far ?_ Al.out _;(with_reducible repeat (first|refine blk_drewN ?_ _|refine blk_drew ?_|refine blk_alloc ?_ _));refine blk_far ?_ Al.out _;(with_reducible repeat (first|refine blk_drewN ?_ _|refine blk_drew ?_|refine blk_alloc ?_ _));refine blk_far ?_ Al.out _;(with_reducible repeat (first|refine blk_drewN ?_ _|refine blk_drew ?_|refine blk_alloc ?_ _));refine blk_far ?_ Ak.out _;(with_reducible repeat (first|refine blk_drewN ?_ _|refine blk_drew ?_|refine blk_alloc ?_ _));refine blk_far ?_ Ak.out _;(with_reducible repeat (first|refine blk_drewN ?_ _|refine blk_drew ?_|refine blk_alloc ?_ _));refine blk_far ?_ Ak.out _;(with_reducible repeat (first|refine blk_drewN ?_ _|refine blk_drew ?_|refine blk_alloc ?_ _));refine blk_far ?_ Ak.out _;(with_reducible repeat (first|refine blk_drewN ?_ _|refine blk_drew ?_|refine blk_alloc ?_ _));refine blk_far ?_ Ak.out _;(with_reducible repeat (first|refine blk_drewN ?_ _|refine blk_drew ?_|refine blk_alloc ?_ _));refine blk_far ?_ Ak.out _;(with_reducible repeat (first|refine blk_drewN ?_ _|refine blk_drew ?_|refine blk_alloc ?_ _));refine blk_far ?_ Ak.out _;(with_reducible repeat (first|refine blk_drewN ?_ _|refine blk_drew ?_|refine blk_alloc ?_ _));exact Aa.out⟩,⟨by (with_reducible repeat (first|refine blk_drewN ?_ _|refine blk_drew ?_|refine blk_alloc ?_ _));refine blk_far ?_ Ag.out _;(with_reducible repeat (first|refine blk_drewN ?_ _|refine blk_drew ?_|refine blk_alloc ?_ _));refine blk_far ?_ Ag.out _;(with_reducible repeat (first|refine blk_drewN ?_ _|refine blk_drew ?_|refine blk_alloc ?_ _));refine blk_far ?_ Ag.out _;(with_reducible repeat (first|refine blk_drewN ?_ _|refine blk_drew ?_|refine blk_alloc ?_ _));refine blk_far ?_ Ag.out _;(with_reducible repeat (first|refine blk_drewN ?_ _|refine blk_drew ?_|refine blk_alloc ?_ _));refine blk_far ?_ Ag.out _;(with_reducible repeat (first|refine blk_drewN ?_ _|refine blk_drew ?_|refine blk_alloc ?_ _));refine blk_far ?_ Ag.out _;(with_reducible repeat (first|refine blk_drewN ?_ _|refine blk_drew ?_|refine blk_alloc ?_ _));refine blk_far ?_ Ag.out _;(with_reducible repeat (first|refine blk_drewN ?_ _|refine blk_drew ?_|refine blk_alloc ?_ _));refine blk_put (cs:=#[.int .i64 Bp,.int .i64 Br,.int .i64 Bu,.int .i64 Bx,.int .i64 t203,.int .i64 t204,.int .i64 0]) ?_ 6 _ rfl;(with_reducible repeat (first|refine blk_drewN ?_ _|refine blk_drew ?_|refine blk_alloc ?_ _));refine blk_put (cs:=#[.int .i64 Bp,.int .i64 Br,.int .i64 Bu,.int .i64 Bx,.int .i64 t203,.int .i64 0,.int .i64 0]) ?_ 5 _ rfl;(with_reducible repeat (first|refine blk_drewN ?_ _|refine blk_drew ?_|refine blk_alloc ?_ _));refine blk_put (cs:=#[.int .i64 Bp,.int .i64 Br,.int .i64 Bu,.int .i64 Bx,.int .i64 0,.int .i64 0,.int .i64 0]) ?_ 4 _ rfl;(with_reducible repeat (first|refine blk_drewN ?_ _|refine blk_drew ?_|refine blk_alloc ?_ _));refine blk_put (cs:=#[.int .i64 Bp,.int .i64 Br,.int .i64 Bu,.int .i64 0,.int .i64 0,.int .i64 0,.int .i64 0]) ?_ 3 _ rfl;(with_reducible repeat (first|refine blk_drewN ?_ _|refine blk_drew ?_|refine blk_alloc ?_ _));refine blk_put (cs:=#[.int .i64 Bp,.int .i64 Br,.int .i64 0,.int .i64 0,.int .i64 0,.int .i64 0,.int .i64 0]) ?_ 2 _ rfl;(with_reducible repeat (first|refine blk_drewN ?_ _|refine blk_drew ?_|refine blk_alloc ?_ _));refine blk_put (cs:=#[.int .i64 Bp,.int .i64 0,.int .i64 0,.int .i64 0,.int .i64 0,.int .i64 0,.int .i64 0]) ?_ 1 _ rfl;(with_reducible repeat (first|refine blk_drewN ?_ _|refine blk_drew ?_|refine blk_alloc ?_ _));refine blk_put (cs:=#[.int .i64 0,.int .i64 0,.int .i64 0,.int .i64 0,.int .i64 0,.int .i64 0,.int .i64 0]) ?_ 0 _ rfl;(with_reducible repeat (first|refine blk_drewN ?_ _|refine blk_drew ?_|refine blk_alloc ?_ _));exact Ad.out⟩,⟨by (with_reducible repeat (first|refine blk_drewN ?_ _|refine blk_drew ?_|refine blk_alloc ?_ _));refine blk_put (cs:=#[.int .i64 Bj,.int .i64 Bk,.int .i64 Bl,.int .i64 Bn,.int .i64 Bo,.int .i64 Bq,.int .i64 0]) ?_ 6 _ rfl;(with_reducible repeat (first|refine blk_drewN ?_ _|refine blk_drew ?_|refine blk_alloc ?_ _));refine blk_put (cs:=#[.int .i64 Bj,.int .i64 Bk,.int .i64 Bl,.int .i64 Bn,.int .i64 Bo,.int .i64 0,.int .i64 0]) ?_ 5 _ rfl;(with_reducible repeat (first|refine blk_drewN ?_ _|refine blk_drew ?_|refine blk_alloc ?_ _));refine blk_put (cs:=#[.int .i64 Bj,.int .i64 Bk,.int .i64 Bl,.int .i64 Bn,.int .i64 0,.int .i64 0,.int .i64 0]) ?_ 4 _ rfl;(with_reducible repeat (first|refine blk_drewN ?_ _|refine blk_drew ?_|refine blk_alloc ?_ _));refine blk_put (cs:=#[.int .i64 Bj,.int .i64 Bk,.int .i64 Bl,.int .i64 0,.int .i64 0,.int .i64 0,.int .i64 0]) ?_ 3 _ rfl;(with_reducible repeat (first|refine blk_drewN ?_ _|refine blk_drew ?_|refine blk_alloc ?_ _));refine blk_put (cs:=#[.int .i64 Bj,.int .i64 Bk,.int .i64 0,.int .i64 0,.int .i64 0,.int .i64 0,.int .i64 0]) ?_ 2 _ rfl;(with_reducible repeat (first|refine blk_drewN ?_ _|refine blk_drew ?_|refine blk_alloc ?_ _));refine blk_put (cs:=#[.int .i64 Bj,.int .i64 0,.int .i64 0,.int .i64 0,.int .i64 0,.int .i64 0,.int .i64 0]) ?_ 1 _ rfl;(with_reducible repeat (first|refine blk_drewN ?_ _|refine blk_drew ?_|refine blk_alloc ?_ _));refine blk_put (cs:=#[.int .i64 0,.int .i64 0,.int .i64 0,.int .i64 0,.int .i64 0,.int .i64 0,.int .i64 0]) ?_ 0 _ rfl;(with_reducible repeat (first|refine blk_drewN ?_ _|refine blk_drew ?_|refine blk_alloc ?_ _));refine blk_far ?_ Ah.out _;(with_reducible repeat (first|refine blk_drewN ?_ _|refine blk_drew ?_|refine blk_alloc ?_ _));refine blk_far ?_ Ah.out _;(with_reducible repeat (first|refine blk_drewN ?_ _|refine blk_drew ?_|refine blk_alloc ?_ _));refine blk_far ?_ Ah.out _;(with_reducible repeat (first|refine blk_drewN ?_ _|refine blk_drew ?_|refine blk_alloc ?_ _));refine blk_far ?_ Ah.out _;(with_reducible repeat (first|refine blk_drewN ?_ _|refine blk_drew ?_|refine blk_alloc ?_ _));refine blk_far ?_ Ah.out _;(with_reducible repeat (first|refine blk_drewN ?_ _|refine blk_drew ?_|refine blk_alloc ?_ _));refine blk_far ?_ Ah.out _;(with_reducible repeat (first|refine blk_drewN ?_ _|refine blk_drew ?_|refine blk_alloc ?_ _));refine blk_far ?_ Ah.out _;(with_reducible repeat (first|refine blk_drewN ?_ _|refine blk_drew ?_|refine blk_alloc ?_ _));exact Af.out⟩,⟨by repeat (first|(with_reducible first|exact HB.out|apply below_alloc|apply pw_below_drewN|apply below_drew1|refine below_set ?_ Bm.out|refine below_set ?_ GE213.out|refine below_set ?_ GE214.out)|exact HB.out)⟩⟩
     case round =>
      clear H'
      try clear c1
      try clear p1
      try clear q1
      try clear hx1
      try clear c2
      try clear p2
      try clear c3
      try clear c5
      try clear c5b0
      try clear c5b1
      try clear p6
      try clear c12
      try clear c12b0
      try clear c13
      try clear c13b0
      try clear c14
      try clear c14b0
      try clear c15
      try clear c16
      try clear c16b0
      try clear c16b1
      try clear c19
      try clear p19
      try clear q19
      try clear hx19
      try clear c32
      try clear c33
      try clear c35
      try clear hcz17_0
      try clear hcz17_1
      try clear hcz17_2
      try clear hcz17_3
      try clear hcz17_4
      try clear hcz19_0
      try clear hcz19_1
      try clear hcz19_2
      try clear hcz19_3
      try clear hcz19_4
      try clear hcz24_0
      try clear hcz24_1
      try clear hcz24_2
      try clear hcz24_3
      try clear hcz24_4
      try clear hcz26_0
      try clear hcz26_1
      try clear hcz26_2
      try clear hcz26_3
      try clear hcz26_4
      try clear hcz34_0
      try clear hcz34_1
      try clear hcz34_2
      try clear hcz34_3
      try clear hcz34_4
      try clear hcz34_5
      try clear hcz34_6
      try clear hcz36_0
      try clear hcz36_1
      try clear hcz36_2
      try clear hcz36_3
      try clear hcz36_4
      try clear hcz36_5
      try clear hcz36_6
      try clear hcz7_0
      try clear hcz7_1
      try clear hcz7_2
      try clear hcz7_3
      try clear hcz7_4
      try clear hfz17_0
      try clear hfz17_1
      try clear hfz17_2
      try clear hfz17_3
      try clear hfz17_4
      try clear hfz19_0
      try clear hfz19_1
      try clear hfz19_2
      try clear hfz19_3
      try clear hfz19_4
      try clear hfz24_0
      try clear hfz24_1
      try clear hfz24_2
      try clear hfz24_3
      try clear hfz24_4
      try clear hfz26_0
      try clear hfz26_1
      try clear hfz26_2
      try clear hfz26_3
      try clear hfz26_4
      try clear hfz34_0
      try clear hfz34_1
      try clear hfz34_2
      try clear hfz34_3
      try clear hfz34_4
      try clear hfz34_5
      try clear hfz34_6
      try clear hfz36_0
      try clear hfz36_1
      try clear hfz36_2
      try clear hfz36_3
      try clear hfz36_4
      try clear hfz36_5
      try clear hfz36_6
      try clear hfz7_0
      try clear hfz7_1
      try clear hfz7_2
      try clear hfz7_3
      try clear hfz7_4
      try clear hx190_0
      try clear p190
      try clear p2
      try clear q190
      obtain ⟨Bg,Ar,Aq,Ap,Ao,An,Am,Aj,rfl,HA,HK2,A8,Ax,Ai,Aa,Ad,Af,HB⟩:=hrel
      cases gk with
      | zero=>exact absurd HA.out (by simp [kinds_Same.l1])
      | succ k2 =>
       have H:=HA.out
       clear HA
       simp only [kinds_Same.l1] at H
       by_cases c37 : Bg < (l1.length : Int)
       ·rw [if_pos c37] at H
        have c37b0 : decide (Bg < (l1.length : Int)) = true:=decide_eq_true c37
        clear c37
        by_cases c38 : 0 ≤ Bg
        ·rw [if_pos c38] at H
         have c38b0 : decide (0 ≤ Bg) = true:=decide_eq_true c38
         clear c38
         by_cases c39 : Bg < (l1.length : Int)
         ·rw [if_pos c39] at H
          have c39b0 : decide (Bg < (l1.length : Int)) = true:=decide_eq_true c39
          clear c39
          replace H:=Option.bind_eq_some_iff.mp H
          obtain ⟨⟨t216,t217,t218,t219,t220,t221,t222⟩,A400,H⟩:=H
          replace H : ((kinds_move_then.f Ar Aq Ap Ao An Am Aj t216 t217 t218 t219 t220 t221 t222).bind fun bt223=>(kinds_Same.l1 k2 l1 l2 (l1.length : Int) (wrap64 (Bg + 1)) A6 A7 A3 A9 Bb bt223.1 bt223.2.1 bt223.2.2.1 bt223.2.2.2.1 bt223.2.2.2.2.1 bt223.2.2.2.2.2.1 bt223.2.2.2.2.2.2 Bj Bk Bl Bn Bo Bq Bs)) = some (r1,r2):=H
          have A40:=Aside0.mk A400
          clear A400
          replace H:=Option.bind_eq_some_iff.mp H
          obtain ⟨⟨Bt,Bv,By,t226,t227,t228,t229⟩,A410,H⟩:=H
          replace H : (kinds_Same.l1 k2 l1 l2 (l1.length : Int) (wrap64 (Bg + 1)) A6 A7 A3 A9 Bb Bt Bv By t226 t227 t228 t229 Bj Bk Bl Bn Bo Bq Bs) = some (r1,r2):=H
          have A41:=Aside0.mk A410
          clear A410
          have H':=Aside0.mk H
          clear H
          have p215 : 0 ≤ (Bg : Int):=of_decide_eq_true qAs12_7
          have q215 : Bg < (l1.length : Int):=of_decide_eq_true qAs12_7
          obtain ⟨ad215,e215,hx215_0⟩:=Kd.at_int (Kd.V_reads' A8.out).2.2 Bg p215 q215
          cases e215
          replace p215:=eq_true p215
          replace q215:=eq_true q215
          try go_wp2
          have n0_:=Aside0.mk (Kd.V_drew A8.out)
          have n1_:=Aside0.mk (Kd.V_drew Ax.out)
          have n2_:=Aside0.mk (Kd.N_drew Ai.out)
          have n3_:=Aside0.mk (blk_drew Aa.out)
          have n4_:=Aside0.mk (blk_drew Ad.out)
          have n5_:=Aside0.mk (blk_drew Af.out)
          have n6_:=Aside0.mk (below_drew1 HB.out)
          clear A8
          clear Ax
          clear Ai
          clear Aa
          clear Ad
          clear Af
          clear HB
          have A8:=n0_
          have Ax:=n1_
          have Ai:=n2_
          have Aa:=n3_
          have Ad:=n4_
          have Af:=n5_
          have HB:=n6_
          clear n0_ n1_ n2_ n3_ n4_ n5_ n6_
          refine start_ (n:=6) (S:=fun w'=>w'.cell? ⟨Ac,0,none⟩ = some (.int .i64 Ar) ∧ w'.cell? ⟨Ac,1,none⟩ = some (.int .i64 Aq) ∧ w'.cell? ⟨Ac,2,none⟩ = some (.int .i64 Ap) ∧ w'.cell? ⟨Ac,3,none⟩ = some (.int .i64 Ao) ∧ w'.cell? ⟨Ac,4,none⟩ = some (.int .i64 An) ∧ w'.cell? ⟨Ac,5,none⟩ = some (.int .i64 Am) ∧ w'.cell? ⟨Ac,6,none⟩ = some (.int .i64 Aj) ∧ w'.cell? ⟨Ab,0,none⟩ = some (.int .i64 A6) ∧ w'.cell? ⟨Ab,1,none⟩ = some (.int .i64 A7) ∧ w'.cell? ⟨Ab,2,none⟩ = some (.slice Be A3.length Bf) ∧ w'.cell? ⟨Ab,3,none⟩ = some (.int .i64 A9) ∧ w'.cell? ⟨Ab,4,none⟩ = some (.int .u32 Bb)) (ds:=[5]) #[false,false,false,false,false,false] (by kernel_rfl) rfl rfl ⟨(blk_cell Ad.out 0).trans rfl,(blk_cell Ad.out 1).trans rfl,(blk_cell Ad.out 2).trans rfl,(blk_cell Ad.out 3).trans rfl,(blk_cell Ad.out 4).trans rfl,(blk_cell Ad.out 5).trans rfl,(blk_cell Ad.out 6).trans rfl,(blk_cell Aa.out 0).trans rfl,(blk_cell Aa.out 1).trans rfl,(blk_cell Aa.out 2).trans rfl,(blk_cell Aa.out 3).trans rfl,(blk_cell Aa.out 4).trans rfl⟩ (fun hHeld=>?_)
          generalize wr.drew = w42 at A8 Ax Ai Aa Ad Af HB hHeld ⊢
          refine pure_ (i:=2) (N:=some 51) (v:=?_) (a':=?_) #[false,false,true,false,false,false] rfl rfl (by kernel_rfl) (fun _ _ _ h=>h) (Or.inl ⟨by rfl,?_⟩) ?_ ?_
          rotate_left
          ·intro w'
           go_simp
           with_reducible rfl
          rotate_left
          ·simp only [Act.put,List.setIfInBounds_toArray,List.set_cons_zero,List.set_cons_succ,i64_w,i32_w]
           rfl
          refine take_ (i:=0) (N:=some 49) (v:=?_) (a':=?_) #[true,false,true,false,false,false] rfl rfl (by kernel_rfl) (fun _ _ _ h=>h) (Or.inl ⟨by rfl,?_⟩) hHeld ?_ ?_
          rotate_left
          ·rintro w' ⟨s0,s1,s2,s3,s4,s5,s6,s7,s8,s9,s10,s11⟩
           go_simp
           with_reducible rfl
          rotate_left
          ·simp only [Act.put,List.setIfInBounds_toArray,List.set_cons_zero,List.set_cons_succ,i64_w,i32_w]
           rfl
          refine take_ (i:=1) (N:=some 50) (v:=?_) (a':=?_) #[true,true,true,false,false,false] rfl rfl (by kernel_rfl) (fun _ _ _ h=>h) (Or.inl ⟨by rfl,?_⟩) hHeld ?_ ?_
          rotate_left
          ·rintro w' ⟨s0,s1,s2,s3,s4,s5,s6,s7,s8,s9,s10,s11⟩
           go_simp
           with_reducible rfl
          rotate_left
          ·simp only [Act.put,List.setIfInBounds_toArray,List.set_cons_zero,List.set_cons_succ,i64_w,i32_w]
           rfl
          refine one_ (i:=3) (N:=some 52) #[true,true,true,true,false,false] rfl rfl (by kernel_rfl) (by decide) (fun K hK=>?_)
          refine goes_ Try.func18 (by kernel_rfl) rfl #[.agg #[.int .i64 A6,.int .i64 A7,.slice Be A3.length Bf,.int .i64 A9,.int .u32 Bb],.int .i64 (rd l1 Bg)] (by rfl) rfl rfl qAs12_6 ?_
          with_reducible refine (kinds_by.calls A6 A7 _ _ A3 A9 Bb (rd l1 Bg) t216 t217 t218 t219 t220 t221 t222 _ ?side1 ?side2 A40.out).mono ?_
          (case side1=>repeat (first|exact (Kd.N_reads' Ai.out).2.2|(with_reducible refine Kd.C_alloc ?_ _)|(with_reducible refine Kd.C_drewN ?_ _)|(with_reducible refine Kd.C_drew ?_)))
          (case side2=>exact (Kd.N_reads' Ai.out).2.1)
          rintro e w43 ⟨rfl,hb⟩
          refine ⟨_,rfl,?_⟩
          have n0_:=Aside0.mk (Kd.V_below (by (with_reducible repeat (first|apply Kd.V_alloc|apply Kd.V_drewN|apply Kd.V_drew));exact A8.out) hb)
          have n1_:=Aside0.mk (Kd.V_below (by (with_reducible repeat (first|apply Kd.V_alloc|apply Kd.V_drewN|apply Kd.V_drew));exact Ax.out) hb)
          have n2_:=Aside0.mk (Kd.N_below (qNs12_ Ai.out) hb)
          have n3_:=Aside0.mk (blk_below (g:=Ab) (o:=.cells #[.int .i64 A6,.int .i64 A7,.slice Be A3.length Bf,.int .i64 A9,.int .u32 Bb] 25 (0,0)) (qDs12_ Aa.out) hb)
          have n4_:=Aside0.mk (blk_below (g:=Ac) (o:=.cells #[.int .i64 Ar,.int .i64 Aq,.int .i64 Ap,.int .i64 Ao,.int .i64 An,.int .i64 Am,.int .i64 Aj] 44 (0,0)) (qDs12_ Ad.out) hb)
          have n5_:=Aside0.mk (blk_below (g:=Ae) (o:=.cells #[.int .i64 Bj,.int .i64 Bk,.int .i64 Bl,.int .i64 Bn,.int .i64 Bo,.int .i64 Bq,.int .i64 Bs] 44 (0,0)) (qDs12_ Af.out) hb)
          have n6_:=Aside0.mk (below_step qBs12_5 hb)
          clear A8
          clear Ax
          clear Ai
          clear Aa
          clear Ad
          clear Af
          clear HB
          have A8:=n0_
          have Ax:=n1_
          have Ai:=n2_
          have Aa:=n3_
          have Ad:=n4_
          have Af:=n5_
          have HB:=n6_
          clear n0_ n1_ n2_ n3_ n4_ n5_ n6_
          (try clear hb)
          (try clear hb2)
          (try clear hk)
          (try clear hi)
          refine hK.out _ _ ⟨(blk_cell Ad.out 0).trans rfl,(blk_cell Ad.out 1).trans rfl,(blk_cell Ad.out 2).trans rfl,(blk_cell Ad.out 3).trans rfl,(blk_cell Ad.out 4).trans rfl,(blk_cell Ad.out 5).trans rfl,(blk_cell Ad.out 6).trans rfl,(blk_cell Aa.out 0).trans rfl,(blk_cell Aa.out 1).trans rfl,(blk_cell Aa.out 2).trans rfl,(blk_cell Aa.out 3).trans rfl,(blk_cell Aa.out 4).trans rfl⟩ (fun hHeld=>?_)
          clear hK K
          refine norm_ (a':=?_) ?_ ?_
          rotate_left
          ·show Act.put _ (some 52) _ = _
           simp only [Act.put,List.setIfInBounds_toArray,List.set_cons_zero,List.set_cons_succ,i64_w,i32_w]
           rfl
          refine one_ (i:=4) (N:=some 53) #[true,true,true,true,true,false] rfl rfl (by kernel_rfl) (by decide) (fun K hK=>?_)
          refine goes_ Try.func17 (by kernel_rfl) rfl #[.agg #[.int .i64 Ar,.int .i64 Aq,.int .i64 Ap,.int .i64 Ao,.int .i64 An,.int .i64 Am,.int .i64 Aj],.agg #[.int .i64 t216,.int .i64 t217,.int .i64 t218,.int .i64 t219,.int .i64 t220,.int .i64 t221,.int .i64 t222]] (by rfl) rfl rfl qAs12_6 ?_
          with_reducible refine (kinds_move_then.calls Ar Aq Ap Ao An Am Aj t216 t217 t218 t219 t220 t221 t222 Bt Bv By t226 t227 t228 t229 _ A41.out).mono ?_
          rintro e w44 ⟨rfl,hb⟩
          refine ⟨_,rfl,?_⟩
          have n0_:=Aside0.mk (Kd.V_below (by (with_reducible repeat (first|apply Kd.V_alloc|apply Kd.V_drewN|apply Kd.V_drew));exact A8.out) hb)
          have n1_:=Aside0.mk (Kd.V_below (by (with_reducible repeat (first|apply Kd.V_alloc|apply Kd.V_drewN|apply Kd.V_drew));exact Ax.out) hb)
          have n2_:=Aside0.mk (Kd.N_below (qNs12_ Ai.out) hb)
          have n3_:=Aside0.mk (blk_below (g:=Ab) (o:=.cells #[.int .i64 A6,.int .i64 A7,.slice Be A3.length Bf,.int .i64 A9,.int .u32 Bb] 25 (0,0)) (qDs12_ Aa.out) hb)
          have n4_:=Aside0.mk (blk_below (g:=Ac) (o:=.cells #[.int .i64 Ar,.int .i64 Aq,.int .i64 Ap,.int .i64 Ao,.int .i64 An,.int .i64 Am,.int .i64 Aj] 44 (0,0)) (qDs12_ Ad.out) hb)
          have n5_:=Aside0.mk (blk_below (g:=Ae) (o:=.cells #[.int .i64 Bj,.int .i64 Bk,.int .i64 Bl,.int .i64 Bn,.int .i64 Bo,.int .i64 Bq,.int .i64 Bs] 44 (0,0)) (qDs12_ Af.out) hb)
          have n6_:=Aside0.mk (below_step qBs12_5 hb)
          clear A8
          clear Ax
          clear Ai
          clear Aa
          clear Ad
          clear Af
          clear HB
          have A8:=n0_
          have Ax:=n1_
          have Ai:=n2_
          have Aa:=n3_
          have Ad:=n4_
          have Af:=n5_
          have HB:=n6_
          clear n0_ n1_ n2_ n3_ n4_ n5_ n6_
          (try clear hb)
          (try clear hb2)
          (try clear hk)
          (try clear hi)
          refine hK.out _ _ ⟨(blk_cell Ad.out 0).trans rfl,(blk_cell Ad.out 1).trans rfl,(blk_cell Ad.out 2).trans rfl,(blk_cell Ad.out 3).trans rfl,(blk_cell Ad.out 4).trans rfl,(blk_cell Ad.out 5).trans rfl,(blk_cell Ad.out 6).trans rfl,(blk_cell Aa.out 0).trans rfl,(blk_cell Aa.out 1).trans rfl,(blk_cell Aa.out 2).trans rfl,(blk_cell Aa.out 3).trans rfl,(blk_cell Aa.out 4).trans rfl⟩ (fun hHeld=>?_)
          clear hK K
          refine norm_ (a':=?_) ?_ ?_
          rotate_left
          ·show Act.put _ (some 53) _ = _
           simp only [Act.put,List.setIfInBounds_toArray,List.set_cons_zero,List.set_cons_succ,i64_w,i32_w]
           rfl
          refine last_ (i:=5) (N:=none) #[true,true,true,true,true,true] rfl rfl (by kernel_rfl) (by decide) (fun K hK=>?_)
          have hs45 : w44.cell? ⟨Ac,0,none⟩ = some (.int .i64 Ar):=(blk_cell Ad.out 0).trans rfl
          have hfs45:=blk_frozen Ad.out 0
          have hns45_0:=Ak.out
          have hns45_2:=Ah.out
          have hms45_0:=Bc.out
          have hms45_2:=Ag.out
          have hs46 : w44.cell? ⟨Ac,1,none⟩ = some (.int .i64 Aq):=(blk_cell Ad.out 1).trans rfl
          have hfs46:=blk_frozen Ad.out 1
          have hns46_0:=Ak.out
          have hns46_2:=Ah.out
          have hms46_0:=Bc.out
          have hms46_2:=Ag.out
          have hs47 : w44.cell? ⟨Ac,2,none⟩ = some (.int .i64 Ap):=(blk_cell Ad.out 2).trans rfl
          have hfs47:=blk_frozen Ad.out 2
          have hns47_0:=Ak.out
          have hns47_2:=Ah.out
          have hms47_0:=Bc.out
          have hms47_2:=Ag.out
          have hs48 : w44.cell? ⟨Ac,3,none⟩ = some (.int .i64 Ao):=(blk_cell Ad.out 3).trans rfl
          have hfs48:=blk_frozen Ad.out 3
          have hns48_0:=Ak.out
          have hns48_2:=Ah.out
          have hms48_0:=Bc.out
          have hms48_2:=Ag.out
          have hs49 : w44.cell? ⟨Ac,4,none⟩ = some (.int .i64 An):=(blk_cell Ad.out 4).trans rfl
          have hfs49:=blk_frozen Ad.out 4
          have hns49_0:=Ak.out
          have hns49_2:=Ah.out
          have hms49_0:=Bc.out
          have hms49_2:=Ag.out
          have hs50 : w44.cell? ⟨Ac,5,none⟩ = some (.int .i64 Am):=(blk_cell Ad.out 5).trans rfl
          have hfs50:=blk_frozen Ad.out 5
          have hns50_0:=Ak.out
          have hns50_2:=Ah.out
          have hms50_0:=Bc.out
          have hms50_2:=Ag.out
          have hs51 : w44.cell? ⟨Ac,6,none⟩ = some (.int .i64 Aj):=(blk_cell Ad.out 6).trans rfl
          have hfs51:=blk_frozen Ad.out 6
          have hns51_0:=Ak.out
          have hns51_2:=Ah.out
          have hms51_0:=Bc.out
          have hms51_2:=Ag.out
          refine skip_ (w1:=?_) (by rfl) rfl ?_ ?_
          rotate_left
          ·go_simp
           rfl
          refine hK.out _ _ ?_
          clear hK K
          refine done_ (by kernel_rfl) ?_
          try go_wp2
          go_roundg k2
          case measure=>have:=HK1.out;have:=HK2.out;omega
          case rel=>exact ⟨(wrap64 (Bg + 1)),(Bt),(Bv),(By),(t226),(t227),(t228),(t229),(by first|rfl|(simp;done)|(simp [*];done)),H',⟨by have:=HK1.out;have:=HK2.out;omega⟩,⟨by (with_reducible repeat (first|apply Kd.V_alloc|apply Kd.V_drewN|apply Kd.V_drew));exact Kd.V_mono (Kd.V_far (p:=⟨Ac,6,none⟩) (Kd.V_far (p:=⟨Ac,5,none⟩) (Kd.V_far (p:=⟨Ac,4,none⟩) (Kd.V_far (p:=⟨Ac,3,none⟩) (Kd.V_far (p:=⟨Ac,2,none⟩) (Kd.V_far (p:=⟨Ac,1,none⟩) (Kd.V_far (p:=⟨Ac,0,none⟩) (Kd.V_mono A8.out (fun k_ hk=>(⟨hk,hk.2.2.2.1⟩ : _ ∧ k_ ≠ Ac))) (fun _ hk=>hk.2) (.int .i64 Bt)) (fun _ hk=>hk.2) (.int .i64 Bv)) (fun _ hk=>hk.2) (.int .i64 By)) (fun _ hk=>hk.2) (.int .i64 t226)) (fun _ hk=>hk.2) (.int .i64 t227)) (fun _ hk=>hk.2) (.int .i64 t228)) (fun _ hk=>hk.2) (.int .i64 t229)) (fun _ hk=>⟨hk.1.1,⟨hk.1.2.1,⟨hk.1.2.2.1,⟨hk.1.2.2.2.1,hk.1.2.2.2.2⟩⟩⟩⟩)⟩,⟨by (with_reducible repeat (first|apply Kd.V_alloc|apply Kd.V_drewN|apply Kd.V_drew));exact Kd.V_mono (Kd.V_far (p:=⟨Ac,6,none⟩) (Kd.V_far (p:=⟨Ac,5,none⟩) (Kd.V_far (p:=⟨Ac,4,none⟩) (Kd.V_far (p:=⟨Ac,3,none⟩) (Kd.V_far (p:=⟨Ac,2,none⟩) (Kd.V_far (p:=⟨Ac,1,none⟩) (Kd.V_far (p:=⟨Ac,0,none⟩) (Kd.V_mono Ax.out (fun k_ hk=>(⟨hk,hk.2.2.2.1⟩ : _ ∧ k_ ≠ Ac))) (fun _ hk=>hk.2) (.int .i64 Bt)) (fun _ hk=>hk.2) (.int .i64 Bv)) (fun _ hk=>hk.2) (.int .i64 By)) (fun _ hk=>hk.2) (.int .i64 t226)) (fun _ hk=>hk.2) (.int .i64 t227)) (fun _ hk=>hk.2) (.int .i64 t228)) (fun _ hk=>hk.2) (.int .i64 t229)) (fun _ hk=>⟨hk.1.1,⟨hk.1.2.1,⟨hk.1.2.2.1,⟨hk.1.2.2.2.1,hk.1.2.2.2.2⟩⟩⟩⟩)⟩,⟨by (with_reducible repeat (first|apply Kd.N_alloc|apply Kd.N_drewN|apply Kd.N_drew));exact Kd.N_mono (Kd.N_far (p:=⟨Ac,6,none⟩) (Kd.N_far (p:=⟨Ac,5,none⟩) (Kd.N_far (p:=⟨Ac,4,none⟩) (Kd.N_far (p:=⟨Ac,3,none⟩) (Kd.N_far (p:=⟨Ac,2,none⟩) (Kd.N_far (p:=⟨Ac,1,none⟩) (Kd.N_far (p:=⟨Ac,0,none⟩) (Kd.N_mono Ai.out (fun k_ hk=>(⟨hk,hk.2.2.1⟩ : _ ∧ k_ ≠ Ac))) (fun _ hk=>hk.2) (.int .i64 Bt)) (fun _ hk=>hk.2) (.int .i64 Bv)) (fun _ hk=>hk.2) (.int .i64 By)) (fun _ hk=>hk.2) (.int .i64 t226)) (fun _ hk=>hk.2) (.int .i64 t227)) (fun _ hk=>hk.2) (.int .i64 t228)) (fun _ hk=>hk.2) (.int .i64 t229)) (fun _ hk=>⟨hk.1.1,⟨hk.1.2.1,⟨hk.1.2.2.1,hk.1.2.2.2⟩⟩⟩)⟩,⟨by (with_reducible repeat (first|refine blk_drewN ?_ _|refine blk_drew ?_|refine blk_alloc ?_ _));refine blk_far ?_ Ak.out _;(with_reducible repeat (first|refine blk_drewN ?_ _|refine blk_drew ?_|refine blk_alloc ?_ _));refine blk_far ?_ Ak.out _;(with_reducible repeat (first|refine blk_drewN ?_ _|refine blk_drew ?_|refine blk_alloc ?_ _));refine blk_far ?_ Ak.out _;(with_reducible repeat (first|refine blk_drewN ?_ _|refine blk_drew ?_|refine blk_alloc ?_ _));refine blk_far ?_ Ak.out _;(with_reducible repeat (first|refine blk_drewN ?_ _|refine blk_drew ?_|refine blk_alloc ?_ _));refine blk_far ?_ Ak.out _;(with_reducible repeat (first|refine blk_drewN ?_ _|refine blk_drew ?_|refine blk_alloc ?_ _));refine blk_far ?_ Ak.out _;(with_reducible repeat (first|refine blk_drewN ?_ _|refine blk_drew ?_|refine blk_alloc ?_ _));refine blk_far ?_ Ak.out _;(with_reducible repeat (first|refine blk_drewN ?_ _|refine blk_drew ?_|refine blk_alloc ?_ _));exact Aa.out⟩,⟨by (with_reducible repeat (first|refine blk_drewN ?_ _|refine blk_drew ?_|refine blk_alloc ?_ _));refine blk_put (cs:=#[.int .i64 Bt,.int .i64 Bv,.int .i64 By,.int .i64 t226,.int .i64 t227,.int .i64 t228,.int .i64 Aj]) ?_ 6 _ rfl;(with_reducible repeat (first|refine blk_drewN ?_ _|refine blk_drew ?_|refine blk_alloc ?_ _));refine blk_put (cs:=#[.int .i64 Bt,.int .i64 Bv,.int .i64 By,.int .i64 t226,.int .i64 t227,.int .i64 Am,.int .i64 Aj]) ?_ 5 _ rfl;(with_reducible repeat (first|refine blk_drewN ?_ _|refine blk_drew ?_|refine blk_alloc ?_ _));refine blk_put (cs:=#[.int .i64 Bt,.int .i64 Bv,.int .i64 By,.int .i64 t226,.int .i64 An,.int .i64 Am,.int .i64 Aj]) ?_ 4 _ rfl;(with_reducible repeat (first|refine blk_drewN ?_ _|refine blk_drew ?_|refine blk_alloc ?_ _));refine blk_put (cs:=#[.int .i64 Bt,.int .i64 Bv,.int .i64 By,.int .i64 Ao,.int .i64 An,.int .i64 Am,.int .i64 Aj]) ?_ 3 _ rfl;(with_reducible repeat (first|refine blk_drewN ?_ _|refine blk_drew ?_|refine blk_alloc ?_ _));refine blk_put (cs:=#[.int .i64 Bt,.int .i64 Bv,.int .i64 Ap,.int .i64 Ao,.int .i64 An,.int .i64 Am,.int .i64 Aj]) ?_ 2 _ rfl;(with_reducible repeat (first|refine blk_drewN ?_ _|refine blk_drew ?_|refine blk_alloc ?_ _));refine blk_put (cs:=#[.int .i64 Bt,.int .i64 Aq,.int .i64 Ap,.int .i64 Ao,.int .i64 An,.int .i64 Am,.int .i64 Aj]) ?_ 1 _ rfl;(with_reducible repeat (first|refine blk_drewN ?_ _|refine blk_drew ?_|refine blk_alloc ?_ _));refine blk_put (cs:=#[.int .i64 Ar,.int .i64 Aq,.int .i64 Ap,.int .i64 Ao,.int .i64 An,.int .i64 Am,.int .i64 Aj]) ?_ 0 _ rfl;(with_reducible repeat (first|refine blk_drewN ?_ _|refine blk_drew ?_|refine blk_alloc ?_ _));exact Ad.out⟩,⟨by (with_reducible repeat (first|refine blk_drewN ?_ _|refine blk_drew ?_|refine blk_alloc ?_ _));refine blk_far ?_ Ah.out _;(with_reducible repeat (first|refine blk_drewN ?_ _|refine blk_drew ?_|refine blk_alloc ?_ _));refine blk_far ?_ Ah.out _;(with_reducible repeat (first|refine blk_drewN ?_ _|refine blk_drew ?_|refine blk_alloc ?_ _));refine blk_far ?_ Ah.out _;(with_reducible repeat (first|refine blk_drewN ?_ _|refine blk_drew ?_|refine blk_alloc ?_ _));refine blk_far ?_ Ah.out _;(with_reducible repeat (first|refine blk_drewN ?_ _|refine blk_drew ?_|refine blk_alloc ?_ _));refine blk_far ?_ Ah.out _;(with_reducible repeat (first|refine blk_drewN ?_ _|refine blk_drew ?_|refine blk_alloc ?_ _));refine blk_far ?_ Ah.out _;(with_reducible repeat (first|refine blk_drewN ?_ _|refine blk_drew ?_|refine blk_alloc ?_ _));refine blk_far ?_ Ah.out _;(with_reducible repeat (first|refine blk_drewN ?_ _|refine blk_drew ?_|refine blk_alloc ?_ _));exact Af.out⟩,⟨by repeat (first|(with_reducible first|exact HB.out|apply below_alloc|apply pw_below_drewN|apply below_drew1|refine below_set ?_ Bm.out|refine below_set ?_ GE213.out|refine below_set ?_ GE214.out)|exact HB.out)⟩⟩
         ·rw [if_neg c39] at H
          exact absurd H (by simp)
        ·rw [if_neg c38] at H
         exact absurd H (by simp)
       ·rw [if_neg c37] at H
        have c37b0 : decide (Bg < (l1.length : Int)) = false:=decide_eq_false c37
        clear c37
        have H':=Aside0.mk H
        clear H
        go_wp2
        go_loopg [57] k2 (fun kq v57 w'=>∃ (Bh : Int) (Az : Int) (Ay : Int) (Aw : Int) (Av : Int) (Au : Int) (At : Int) (As : Int),v57 = .int .i64 Bh ∧ Aside0 (kinds_Same.l2 kq l2 (l2.length : Int) Bh A6 A7 A3 A9 Bb Ar Aq Ap Ao An Am Aj Az Ay Aw Av Au At As = some (r1,r2)) ∧ Aside0 (kq ≤ k2) ∧ Aside0 (Kd.V (Kd.int .i64) 3 w' w.heap.size (fun k_=>((P1_ k_ ∨ P2_ k_) ∨ w.heap.size ≤ k_) ∧ some k_ ≠ ((.slice Be A3.length Bf) : Value).ownBlock ∧ k_ ≠ Ab ∧ k_ ≠ Ac ∧ k_ ≠ Ae) (.slice A2 l2.length c2) l2) ∧ Aside0 (Kd.N (Kd.slice 3 (Kd.int .i64)) 26 w' w.heap.size (fun k_=>((P1_ k_ ∨ P2_ k_) ∨ w.heap.size ≤ k_) ∧ k_ ≠ Ab ∧ k_ ≠ Ac ∧ k_ ≠ Ae) (.slice Be A3.length Bf) A3) ∧ Aside0 (w'.heap[Ab]? = some (.cells #[.int .i64 A6,.int .i64 A7,(.slice Be A3.length Bf),.int .i64 A9,.int .u32 Bb] 25 (0,0))) ∧ Aside0 (w'.heap[Ac]? = some (.cells #[.int .i64 Ar,.int .i64 Aq,.int .i64 Ap,.int .i64 Ao,.int .i64 An,.int .i64 Am,.int .i64 Aj] 44 (0,0))) ∧ Aside0 (w'.heap[Ae]? = some (.cells #[.int .i64 Az,.int .i64 Ay,.int .i64 Aw,.int .i64 Av,.int .i64 Au,.int .i64 At,.int .i64 As] 44 (0,0))) ∧ Aside0 (Below w.heap.size w w'))
        case atStart=>exact ⟨(0),(Bj),(Bk),(Bl),(Bn),(Bo),(Bq),(Bs),(by first|rfl|(simp;done)|(simp [*];done)),H',⟨Nat.le_refl _⟩,⟨by (with_reducible repeat (first|apply Kd.V_alloc|apply Kd.V_drewN|apply Kd.V_drew));exact Ax.out⟩,⟨by (with_reducible repeat (first|apply Kd.N_alloc|apply Kd.N_drewN|apply Kd.N_drew));exact Ai.out⟩,⟨by (with_reducible repeat (first|refine blk_drewN ?_ _|refine blk_drew ?_|refine blk_alloc ?_ _));exact Aa.out⟩,⟨by (with_reducible repeat (first|refine blk_drewN ?_ _|refine blk_drew ?_|refine blk_alloc ?_ _));exact Ad.out⟩,⟨by (with_reducible repeat (first|refine blk_drewN ?_ _|refine blk_drew ?_|refine blk_alloc ?_ _));exact Af.out⟩,⟨by repeat (first|(with_reducible first|exact HB.out|apply below_alloc|apply pw_below_drewN|apply below_drew1|refine below_set ?_ Bm.out|refine below_set ?_ GE213.out|refine below_set ?_ GE214.out)|exact HB.out)⟩⟩
        case round =>
         clear H'
         try clear c1
         try clear p1
         try clear q1
         try clear hx1
         try clear c2
         try clear p2
         try clear q2
         try clear hx2
         try clear c3
         try clear c5
         try clear c5b0
         try clear c5b1
         try clear p6
         try clear c12
         try clear c12b0
         try clear c13
         try clear c13b0
         try clear c14
         try clear c14b0
         try clear c15
         try clear c16
         try clear c16b0
         try clear c16b1
         try clear c17
         try clear c18
         try clear c19
         try clear p19
         try clear q19
         try clear hx19
         try clear p21
         try clear q21
         try clear hx21
         try clear c32
         try clear c33
         try clear c35
         try clear c37
         try clear c37b0
         try clear c38
         try clear c38b0
         try clear c39
         try clear c39b0
         try clear hcz17_0
         try clear hcz17_1
         try clear hcz17_2
         try clear hcz17_3
         try clear hcz17_4
         try clear hcz19_0
         try clear hcz19_1
         try clear hcz19_2
         try clear hcz19_3
         try clear hcz19_4
         try clear hcz24_0
         try clear hcz24_1
         try clear hcz24_2
         try clear hcz24_3
         try clear hcz24_4
         try clear hcz26_0
         try clear hcz26_1
         try clear hcz26_2
         try clear hcz26_3
         try clear hcz26_4
         try clear hcz34_0
         try clear hcz34_1
         try clear hcz34_2
         try clear hcz34_3
         try clear hcz34_4
         try clear hcz34_5
         try clear hcz34_6
         try clear hcz36_0
         try clear hcz36_1
         try clear hcz36_2
         try clear hcz36_3
         try clear hcz36_4
         try clear hcz36_5
         try clear hcz36_6
         try clear hcz7_0
         try clear hcz7_1
         try clear hcz7_2
         try clear hcz7_3
         try clear hcz7_4
         try clear hfz17_0
         try clear hfz17_1
         try clear hfz17_2
         try clear hfz17_3
         try clear hfz17_4
         try clear hfz19_0
         try clear hfz19_1
         try clear hfz19_2
         try clear hfz19_3
         try clear hfz19_4
         try clear hfz24_0
         try clear hfz24_1
         try clear hfz24_2
         try clear hfz24_3
         try clear hfz24_4
         try clear hfz26_0
         try clear hfz26_1
         try clear hfz26_2
         try clear hfz26_3
         try clear hfz26_4
         try clear hfz34_0
         try clear hfz34_1
         try clear hfz34_2
         try clear hfz34_3
         try clear hfz34_4
         try clear hfz34_5
         try clear hfz34_6
         try clear hfz36_0
         try clear hfz36_1
         try clear hfz36_2
         try clear hfz36_3
         try clear hfz36_4
         try clear hfz36_5
         try clear hfz36_6
         try clear hfz7_0
         try clear hfz7_1
         try clear hfz7_2
         try clear hfz7_3
         try clear hfz7_4
         try clear hx190_0
         try clear hx215_0
         try clear p1
         try clear p19
         try clear p190
         try clear p2
         try clear p215
         try clear p6
         try clear q1
         try clear q19
         try clear q190
         try clear q215
         obtain ⟨Bh,Az,Ay,Aw,Av,Au,At,As,rfl,HA,HK3,Ax,Ai,Aa,Ad,Af,HB⟩:=hrel
         cases gk with
         | zero=>exact absurd HA.out (by simp [kinds_Same.l2])
         | succ k3 =>
          have H:=HA.out
          clear HA
          simp only [kinds_Same.l2] at H
          by_cases c52 : Bh < (l2.length : Int)
          ·rw [if_pos c52] at H
           have c52b0 : decide (Bh < (l2.length : Int)) = true:=decide_eq_true c52
           clear c52
           by_cases c53 : 0 ≤ Bh
           ·rw [if_pos c53] at H
            have c53b0 : decide (0 ≤ Bh) = true:=decide_eq_true c53
            clear c53
            by_cases c54 : Bh < (l2.length : Int)
            ·rw [if_pos c54] at H
             have c54b0 : decide (Bh < (l2.length : Int)) = true:=decide_eq_true c54
             clear c54
             replace H:=Option.bind_eq_some_iff.mp H
             obtain ⟨⟨t231,t232,t233,t234,t235,t236,t237⟩,A550,H⟩:=H
             replace H : ((kinds_move_then.f Az Ay Aw Av Au At As t231 t232 t233 t234 t235 t236 t237).bind fun bt238=>(kinds_Same.l2 k3 l2 (l2.length : Int) (wrap64 (Bh + 1)) A6 A7 A3 A9 Bb Ar Aq Ap Ao An Am Aj bt238.1 bt238.2.1 bt238.2.2.1 bt238.2.2.2.1 bt238.2.2.2.2.1 bt238.2.2.2.2.2.1 bt238.2.2.2.2.2.2)) = some (r1,r2):=H
             have A55:=Aside0.mk A550
             clear A550
             replace H:=Option.bind_eq_some_iff.mp H
             obtain ⟨⟨Bw,Bz,t240,t241,t242,t243,t244⟩,A560,H⟩:=H
             replace H : (kinds_Same.l2 k3 l2 (l2.length : Int) (wrap64 (Bh + 1)) A6 A7 A3 A9 Bb Ar Aq Ap Ao An Am Aj Bw Bz t240 t241 t242 t243 t244) = some (r1,r2):=H
             have A56:=Aside0.mk A560
             clear A560
             have H':=Aside0.mk H
             clear H
             have p230 : 0 ≤ (Bh : Int):=of_decide_eq_true qAs12_7
             have q230 : Bh < (l2.length : Int):=of_decide_eq_true qAs12_7
             obtain ⟨ad230,e230,hx230_0⟩:=Kd.at_int (Kd.V_reads' Ax.out).2.2 Bh p230 q230
             cases e230
             replace p230:=eq_true p230
             replace q230:=eq_true q230
             try go_wp2
             have n0_:=Aside0.mk (Kd.V_drew Ax.out)
             have n1_:=Aside0.mk (Kd.N_drew Ai.out)
             have n2_:=Aside0.mk (blk_drew Aa.out)
             have n3_:=Aside0.mk (blk_drew Ad.out)
             have n4_:=Aside0.mk (blk_drew Af.out)
             have n5_:=Aside0.mk (below_drew1 HB.out)
             clear Ax
             clear Ai
             clear Aa
             clear Ad
             clear Af
             clear HB
             have Ax:=n0_
             have Ai:=n1_
             have Aa:=n2_
             have Ad:=n3_
             have Af:=n4_
             have HB:=n5_
             clear n0_ n1_ n2_ n3_ n4_ n5_
             refine start_ (n:=6) (S:=fun w'=>w'.cell? ⟨Ae,0,none⟩ = some (.int .i64 Az) ∧ w'.cell? ⟨Ae,1,none⟩ = some (.int .i64 Ay) ∧ w'.cell? ⟨Ae,2,none⟩ = some (.int .i64 Aw) ∧ w'.cell? ⟨Ae,3,none⟩ = some (.int .i64 Av) ∧ w'.cell? ⟨Ae,4,none⟩ = some (.int .i64 Au) ∧ w'.cell? ⟨Ae,5,none⟩ = some (.int .i64 At) ∧ w'.cell? ⟨Ae,6,none⟩ = some (.int .i64 As) ∧ w'.cell? ⟨Ab,0,none⟩ = some (.int .i64 A6) ∧ w'.cell? ⟨Ab,1,none⟩ = some (.int .i64 A7) ∧ w'.cell? ⟨Ab,2,none⟩ = some (.slice Be A3.length Bf) ∧ w'.cell? ⟨Ab,3,none⟩ = some (.int .i64 A9) ∧ w'.cell? ⟨Ab,4,none⟩ = some (.int .u32 Bb)) (ds:=[5]) #[false,false,false,false,false,false] (by kernel_rfl) rfl rfl ⟨(blk_cell Af.out 0).trans rfl,(blk_cell Af.out 1).trans rfl,(blk_cell Af.out 2).trans rfl,(blk_cell Af.out 3).trans rfl,(blk_cell Af.out 4).trans rfl,(blk_cell Af.out 5).trans rfl,(blk_cell Af.out 6).trans rfl,(blk_cell Aa.out 0).trans rfl,(blk_cell Aa.out 1).trans rfl,(blk_cell Aa.out 2).trans rfl,(blk_cell Aa.out 3).trans rfl,(blk_cell Aa.out 4).trans rfl⟩ (fun hHeld=>?_)
             generalize wr.drew = w57 at Ax Ai Aa Ad Af HB hHeld ⊢
             refine pure_ (i:=2) (N:=some 63) (v:=?_) (a':=?_) #[false,false,true,false,false,false] rfl rfl (by kernel_rfl) (fun _ _ _ h=>h) (Or.inl ⟨by rfl,?_⟩) ?_ ?_
             rotate_left
             ·intro w'
              go_simp
              with_reducible rfl
             rotate_left
             ·simp only [Act.put,List.setIfInBounds_toArray,List.set_cons_zero,List.set_cons_succ,i64_w,i32_w]
              rfl
             refine take_ (i:=0) (N:=some 61) (v:=?_) (a':=?_) #[true,false,true,false,false,false] rfl rfl (by kernel_rfl) (fun _ _ _ h=>h) (Or.inl ⟨by rfl,?_⟩) hHeld ?_ ?_
             rotate_left
             ·rintro w' ⟨s0,s1,s2,s3,s4,s5,s6,s7,s8,s9,s10,s11⟩
              go_simp
              with_reducible rfl
             rotate_left
             ·simp only [Act.put,List.setIfInBounds_toArray,List.set_cons_zero,List.set_cons_succ,i64_w,i32_w]
              rfl
             refine take_ (i:=1) (N:=some 62) (v:=?_) (a':=?_) #[true,true,true,false,false,false] rfl rfl (by kernel_rfl) (fun _ _ _ h=>h) (Or.inl ⟨by rfl,?_⟩) hHeld ?_ ?_
             rotate_left
             ·rintro w' ⟨s0,s1,s2,s3,s4,s5,s6,s7,s8,s9,s10,s11⟩
              go_simp
              with_reducible rfl
             rotate_left
             ·simp only [Act.put,List.setIfInBounds_toArray,List.set_cons_zero,List.set_cons_succ,i64_w,i32_w]
              rfl
             refine one_ (i:=3) (N:=some 64) #[true,true,true,true,false,false] rfl rfl (by kernel_rfl) (by decide) (fun K hK=>?_)
             refine goes_ Try.func18 (by kernel_rfl) rfl #[.agg #[.int .i64 A6,.int .i64 A7,.slice Be A3.length Bf,.int .i64 A9,.int .u32 Bb],.int .i64 (rd l2 Bh)] (by rfl) rfl rfl qAs12_6 ?_
             with_reducible refine (kinds_by.calls A6 A7 _ _ A3 A9 Bb (rd l2 Bh) t231 t232 t233 t234 t235 t236 t237 _ ?side1 ?side2 A55.out).mono ?_
             (case side1=>repeat (first|exact (Kd.N_reads' Ai.out).2.2|(with_reducible refine Kd.C_alloc ?_ _)|(with_reducible refine Kd.C_drewN ?_ _)|(with_reducible refine Kd.C_drew ?_)))
             (case side2=>exact (Kd.N_reads' Ai.out).2.1)
             rintro e w58 ⟨rfl,hb⟩
             refine ⟨_,rfl,?_⟩
             have n0_:=Aside0.mk (Kd.V_below (by (with_reducible repeat (first|apply Kd.V_alloc|apply Kd.V_drewN|apply Kd.V_drew));exact Ax.out) hb)
             have n1_:=Aside0.mk (Kd.N_below (qNs12_ Ai.out) hb)
             have n2_:=Aside0.mk (blk_below (g:=Ab) (o:=.cells #[.int .i64 A6,.int .i64 A7,.slice Be A3.length Bf,.int .i64 A9,.int .u32 Bb] 25 (0,0)) (qDs12_ Aa.out) hb)
             have n3_:=Aside0.mk (blk_below (g:=Ac) (o:=.cells #[.int .i64 Ar,.int .i64 Aq,.int .i64 Ap,.int .i64 Ao,.int .i64 An,.int .i64 Am,.int .i64 Aj] 44 (0,0)) (qDs12_ Ad.out) hb)
             have n4_:=Aside0.mk (blk_below (g:=Ae) (o:=.cells #[.int .i64 Az,.int .i64 Ay,.int .i64 Aw,.int .i64 Av,.int .i64 Au,.int .i64 At,.int .i64 As] 44 (0,0)) (qDs12_ Af.out) hb)
             have n5_:=Aside0.mk (below_step qBs12_5 hb)
             clear Ax
             clear Ai
             clear Aa
             clear Ad
             clear Af
             clear HB
             have Ax:=n0_
             have Ai:=n1_
             have Aa:=n2_
             have Ad:=n3_
             have Af:=n4_
             have HB:=n5_
             clear n0_ n1_ n2_ n3_ n4_ n5_
             (try clear hb)
             (try clear hb2)
             (try clear hk)
             (try clear hi)
             refine hK.out _ _ ⟨(blk_cell Af.out 0).trans rfl,(blk_cell Af.out 1).trans rfl,(blk_cell Af.out 2).trans rfl,(blk_cell Af.out 3).trans rfl,(blk_cell Af.out 4).trans rfl,(blk_cell Af.out 5).trans rfl,(blk_cell Af.out 6).trans rfl,(blk_cell Aa.out 0).trans rfl,(blk_cell Aa.out 1).trans rfl,(blk_cell Aa.out 2).trans rfl,(blk_cell Aa.out 3).trans rfl,(blk_cell Aa.out 4).trans rfl⟩ (fun hHeld=>?_)
             clear hK K
             refine norm_ (a':=?_) ?_ ?_
             rotate_left
             ·show Act.put _ (some 64) _ = _
              simp only [Act.put,List.setIfInBounds_toArray,List.set_cons_zero,List.set_cons_succ,i64_w,i32_w]
              rfl
             refine one_ (i:=4) (N:=some 65) #[true,true,true,true,true,false] rfl rfl (by kernel_rfl) (by decide) (fun K hK=>?_)
             refine goes_ Try.func17 (by kernel_rfl) rfl #[.agg #[.int .i64 Az,.int .i64 Ay,.int .i64 Aw,.int .i64 Av,.int .i64 Au,.int .i64 At,.int .i64 As],.agg #[.int .i64 t231,.int .i64 t232,.int .i64 t233,.int .i64 t234,.int .i64 t235,.int .i64 t236,.int .i64 t237]] (by rfl) rfl rfl qAs12_6 ?_
             with_reducible refine (kinds_move_then.calls Az Ay Aw Av Au At As t231 t232 t233 t234 t235 t236 t237 Bw Bz t240 t241 t242 t243 t244 _ A56.out).mono ?_
             rintro e w59 ⟨rfl,hb⟩
             refine ⟨_,rfl,?_⟩
             have n0_:=Aside0.mk (Kd.V_below (by (with_reducible repeat (first|apply Kd.V_alloc|apply Kd.V_drewN|apply Kd.V_drew));exact Ax.out) hb)
             have n1_:=Aside0.mk (Kd.N_below (qNs12_ Ai.out) hb)
             have n2_:=Aside0.mk (blk_below (g:=Ab) (o:=.cells #[.int .i64 A6,.int .i64 A7,.slice Be A3.length Bf,.int .i64 A9,.int .u32 Bb] 25 (0,0)) (qDs12_ Aa.out) hb)
             have n3_:=Aside0.mk (blk_below (g:=Ac) (o:=.cells #[.int .i64 Ar,.int .i64 Aq,.int .i64 Ap,.int .i64 Ao,.int .i64 An,.int .i64 Am,.int .i64 Aj] 44 (0,0)) (qDs12_ Ad.out) hb)
             have n4_:=Aside0.mk (blk_below (g:=Ae) (o:=.cells #[.int .i64 Az,.int .i64 Ay,.int .i64 Aw,.int .i64 Av,.int .i64 Au,.int .i64 At,.int .i64 As] 44 (0,0)) (qDs12_ Af.out) hb)
             have n5_:=Aside0.mk (below_step qBs12_5 hb)
             clear Ax
             clear Ai
             clear Aa
             clear Ad
             clear Af
             clear HB
             have Ax:=n0_
             have Ai:=n1_
             have Aa:=n2_
             have Ad:=n3_
             have Af:=n4_
             have HB:=n5_
             clear n0_ n1_ n2_ n3_ n4_ n5_
             (try clear hb)
             (try clear hb2)
             (try clear hk)
             (try clear hi)
             refine hK.out _ _ ⟨(blk_cell Af.out 0).trans rfl,(blk_cell Af.out 1).trans rfl,(blk_cell Af.out 2).trans rfl,(blk_cell Af.out 3).trans rfl,(blk_cell Af.out 4).trans rfl,(blk_cell Af.out 5).trans rfl,(blk_cell Af.out 6).trans rfl,(blk_cell Aa.out 0).trans rfl,(blk_cell Aa.out 1).trans rfl,(blk_cell Aa.out 2).trans rfl,(blk_cell Aa.out 3).trans rfl,(blk_cell Aa.out 4).trans rfl⟩ (fun hHeld=>?_)
             clear hK K
             refine norm_ (a':=?_) ?_ ?_
             rotate_left
             ·show Act.put _ (some 65) _ = _
              simp only [Act.put,List.setIfInBounds_toArray,List.set_cons_zero,List.set_cons_succ,i64_w,i32_w]
              rfl
             refine last_ (i:=5) (N:=none) #[true,true,true,true,true,true] rfl rfl (by kernel_rfl) (by decide) (fun K hK=>?_)
             have hs60 : w59.cell? ⟨Ae,0,none⟩ = some (.int .i64 Az):=(blk_cell Af.out 0).trans rfl
             have hfs60:=blk_frozen Af.out 0
             have hns60_0:=Al.out
             have hns60_1:=Ag.out
             have hms60_0:=Bd.out
             have hms60_1:=Ah.out
             have hs61 : w59.cell? ⟨Ae,1,none⟩ = some (.int .i64 Ay):=(blk_cell Af.out 1).trans rfl
             have hfs61:=blk_frozen Af.out 1
             have hns61_0:=Al.out
             have hns61_1:=Ag.out
             have hms61_0:=Bd.out
             have hms61_1:=Ah.out
             have hs62 : w59.cell? ⟨Ae,2,none⟩ = some (.int .i64 Aw):=(blk_cell Af.out 2).trans rfl
             have hfs62:=blk_frozen Af.out 2
             have hns62_0:=Al.out
             have hns62_1:=Ag.out
             have hms62_0:=Bd.out
             have hms62_1:=Ah.out
             have hs63 : w59.cell? ⟨Ae,3,none⟩ = some (.int .i64 Av):=(blk_cell Af.out 3).trans rfl
             have hfs63:=blk_frozen Af.out 3
             have hns63_0:=Al.out
             have hns63_1:=Ag.out
             have hms63_0:=Bd.out
             have hms63_1:=Ah.out
             have hs64 : w59.cell? ⟨Ae,4,none⟩ = some (.int .i64 Au):=(blk_cell Af.out 4).trans rfl
             have hfs64:=blk_frozen Af.out 4
             have hns64_0:=Al.out
             have hns64_1:=Ag.out
             have hms64_0:=Bd.out
             have hms64_1:=Ah.out
             have hs65 : w59.cell? ⟨Ae,5,none⟩ = some (.int .i64 At):=(blk_cell Af.out 5).trans rfl
             have hfs65:=blk_frozen Af.out 5
             have hns65_0:=Al.out
             have hns65_1:=Ag.out
             have hms65_0:=Bd.out
             have hms65_1:=Ah.out
             have hs66 : w59.cell? ⟨Ae,6,none⟩ = some (.int .i64 As):=(blk_cell Af.out 6).trans rfl
             have hfs66:=blk_frozen Af.out 6
             have hns66_0:=Al.out
             have hns66_1:=Ag.out
             have hms66_0:=Bd.out
             have hms66_1:=Ah.out
             refine skip_ (w1:=?_) (by rfl) rfl ?_ ?_
             rotate_left
             ·go_simp
              rfl
             refine hK.out _ _ ?_
             clear hK K
             refine done_ (by kernel_rfl) ?_
             try go_wp2
             go_roundg k3
             case measure=>have:=HK1.out;have:=HK2.out;have:=HK3.out;omega
             case rel=>exact ⟨(wrap64 (Bh + 1)),(Bw),(Bz),(t240),(t241),(t242),(t243),(t244),(by first|rfl|(simp;done)|(simp [*];done)),H',⟨by have:=HK1.out;have:=HK2.out;have:=HK3.out;omega⟩,⟨by (with_reducible repeat (first|apply Kd.V_alloc|apply Kd.V_drewN|apply Kd.V_drew));exact Kd.V_mono (Kd.V_far (p:=⟨Ae,6,none⟩) (Kd.V_far (p:=⟨Ae,5,none⟩) (Kd.V_far (p:=⟨Ae,4,none⟩) (Kd.V_far (p:=⟨Ae,3,none⟩) (Kd.V_far (p:=⟨Ae,2,none⟩) (Kd.V_far (p:=⟨Ae,1,none⟩) (Kd.V_far (p:=⟨Ae,0,none⟩) (Kd.V_mono Ax.out (fun k_ hk=>(⟨hk,hk.2.2.2.2⟩ : _ ∧ k_ ≠ Ae))) (fun _ hk=>hk.2) (.int .i64 Bw)) (fun _ hk=>hk.2) (.int .i64 Bz)) (fun _ hk=>hk.2) (.int .i64 t240)) (fun _ hk=>hk.2) (.int .i64 t241)) (fun _ hk=>hk.2) (.int .i64 t242)) (fun _ hk=>hk.2) (.int .i64 t243)) (fun _ hk=>hk.2) (.int .i64 t244)) (fun _ hk=>⟨hk.1.1,⟨hk.1.2.1,⟨hk.1.2.2.1,⟨hk.1.2.2.2.1,hk.1.2.2.2.2⟩⟩⟩⟩)⟩,⟨by (with_reducible repeat (first|apply Kd.N_alloc|apply Kd.N_drewN|apply Kd.N_drew));exact Kd.N_mono (Kd.N_far (p:=⟨Ae,6,none⟩) (Kd.N_far (p:=⟨Ae,5,none⟩) (Kd.N_far (p:=⟨Ae,4,none⟩) (Kd.N_far (p:=⟨Ae,3,none⟩) (Kd.N_far (p:=⟨Ae,2,none⟩) (Kd.N_far (p:=⟨Ae,1,none⟩) (Kd.N_far (p:=⟨Ae,0,none⟩) (Kd.N_mono Ai.out (fun k_ hk=>(⟨hk,hk.2.2.2⟩ : _ ∧ k_ ≠ Ae))) (fun _ hk=>hk.2) (.int .i64 Bw)) (fun _ hk=>hk.2) (.int .i64 Bz)) (fun _ hk=>hk.2) (.int .i64 t240)) (fun _ hk=>hk.2) (.int .i64 t241)) (fun _ hk=>hk.2) (.int .i64 t242)) (fun _ hk=>hk.2) (.int .i64 t243)) (fun _ hk=>hk.2) (.int .i64 t244)) (fun _ hk=>⟨hk.1.1,⟨hk.1.2.1,⟨hk.1.2.2.1,hk.1.2.2.2⟩⟩⟩)⟩,⟨by (with_reducible repeat (first|refine blk_drewN ?_ _|refine blk_drew ?_|refine blk_alloc ?_ _));refine blk_far ?_ Al.out _;(with_reducible repeat (first|refine blk_drewN ?_ _|refine blk_drew ?_|refine blk_alloc ?_ _));refine blk_far ?_ Al.out _;(with_reducible repeat (first|refine blk_drewN ?_ _|refine blk_drew ?_|refine blk_alloc ?_ _));refine blk_far ?_ Al.out _;(with_reducible repeat (first|refine blk_drewN ?_ _|refine blk_drew ?_|refine blk_alloc ?_ _));refine blk_far ?_ Al.out _;(with_reducible repeat (first|refine blk_drewN ?_ _|refine blk_drew ?_|refine blk_alloc ?_ _));refine blk_far ?_ Al.out _;(with_reducible repeat (first|refine blk_drewN ?_ _|refine blk_drew ?_|refine blk_alloc ?_ _));refine blk_far ?_ Al.out _;(with_reducible repeat (first|refine blk_drewN ?_ _|refine blk_drew ?_|refine blk_alloc ?_ _));refine blk_far ?_ Al.out _;(with_reducible repeat (first|refine blk_drewN ?_ _|refine blk_drew ?_|refine blk_alloc ?_ _));exact Aa.out⟩,⟨by (with_reducible repeat (first|refine blk_drewN ?_ _|refine blk_drew ?_|refine blk_alloc ?_ _));refine blk_far ?_ Ag.out _;(with_reducible repeat (first|refine blk_drewN ?_ _|refine blk_drew ?_|refine blk_alloc ?_ _));refine blk_far ?_ Ag.out _;(with_reducible repeat (first|refine blk_drewN ?_ _|refine blk_drew ?_|refine blk_alloc ?_ _));refine blk_far ?_ Ag.out _;(with_reducible repeat (first|refine blk_drewN ?_ _|refine blk_drew ?_|refine blk_alloc ?_ _));refine blk_far ?_ Ag.out _;(with_reducible repeat (first|refine blk_drewN ?_ _|refine blk_drew ?_|refine blk_alloc ?_ _));refine blk_far ?_ Ag.out _;(with_reducible repeat (first|refine blk_drewN ?_ _|refine blk_drew ?_|refine blk_alloc ?_ _));refine blk_far ?_ Ag.out _;(with_reducible repeat (first|refine blk_drewN ?_ _|refine blk_drew ?_|refine blk_alloc ?_ _));refine blk_far ?_ Ag.out _;(with_reducible repeat (first|refine blk_drewN ?_ _|refine blk_drew ?_|refine blk_alloc ?_ _));exact Ad.out⟩,⟨by (with_reducible repeat (first|refine blk_drewN ?_ _|refine blk_drew ?_|refine blk_alloc ?_ _));refine blk_put (cs:=#[.int .i64 Bw,.int .i64 Bz,.int .i64 t240,.int .i64 t241,.int .i64 t242,.int .i64 t243,.int .i64 As]) ?_ 6 _ rfl;(with_reducible repeat (first|refine blk_drewN ?_ _|refine blk_drew ?_|refine blk_alloc ?_ _));refine blk_put (cs:=#[.int .i64 Bw,.int .i64 Bz,.int .i64 t240,.int .i64 t241,.int .i64 t242,.int .i64 At,.int .i64 As]) ?_ 5 _ rfl;(with_reducible repeat (first|refine blk_drewN ?_ _|refine blk_drew ?_|refine blk_alloc ?_ _));refine blk_put (cs:=#[.int .i64 Bw,.int .i64 Bz,.int .i64 t240,.int .i64 t241,.int .i64 Au,.int .i64 At,.int .i64 As]) ?_ 4 _ rfl;(with_reducible repeat (first|refine blk_drewN ?_ _|refine blk_drew ?_|refine blk_alloc ?_ _));refine blk_put (cs:=#[.int .i64 Bw,.int .i64 Bz,.int .i64 t240,.int .i64 Av,.int .i64 Au,.int .i64 At,.int .i64 As]) ?_ 3 _ rfl;(with_reducible repeat (first|refine blk_drewN ?_ _|refine blk_drew ?_|refine blk_alloc ?_ _));refine blk_put (cs:=#[.int .i64 Bw,.int .i64 Bz,.int .i64 Aw,.int .i64 Av,.int .i64 Au,.int .i64 At,.int .i64 As]) ?_ 2 _ rfl;(with_reducible repeat (first|refine blk_drewN ?_ _|refine blk_drew ?_|refine blk_alloc ?_ _));refine blk_put (cs:=#[.int .i64 Bw,.int .i64 Ay,.int .i64 Aw,.int .i64 Av,.int .i64 Au,.int .i64 At,.int .i64 As]) ?_ 1 _ rfl;(with_reducible repeat (first|refine blk_drewN ?_ _|refine blk_drew ?_|refine blk_alloc ?_ _));refine blk_put (cs:=#[.int .i64 Az,.int .i64 Ay,.int .i64 Aw,.int .i64 Av,.int .i64 Au,.int .i64 At,.int .i64 As]) ?_ 0 _ rfl;(with_reducible repeat (first|refine blk_drewN ?_ _|refine blk_drew ?_|refine blk_alloc ?_ _));exact Af.out⟩,⟨by repeat (first|(with_reducible first|exact HB.out|apply below_alloc|apply pw_below_drewN|apply below_drew1|refine below_set ?_ Bm.out|refine below_set ?_ GE213.out|refine below_set ?_ GE214.out)|exact HB.out)⟩⟩
            ·rw [if_neg c54] at H
             exact absurd H (by simp)
           ·rw [if_neg c53] at H
            exact absurd H (by simp)
          ·rw [if_neg c52] at H
           have c52b0 : decide (Bh < (l2.length : Int)) = false:=decide_eq_false c52
           clear c52
           simp only [Option.some.injEq,Prod.mk.injEq] at H
           obtain ⟨rfl,rfl⟩:=H
           have hnb67:=Bc.out
           have hnc67:=Ak.out
           have hnb68:=Ag.out
           have hnc68:=Ah.out
           have hcz69_0 : wr.cell? ⟨Ac,0,none⟩ = some (.int .i64 Ar):=(blk_cell Ad.out 0).trans rfl
           have hcz69_1 : wr.cell? ⟨Ac,1,none⟩ = some (.int .i64 Aq):=(blk_cell Ad.out 1).trans rfl
           have hcz69_2 : wr.cell? ⟨Ac,2,none⟩ = some (.int .i64 Ap):=(blk_cell Ad.out 2).trans rfl
           have hcz69_3 : wr.cell? ⟨Ac,3,none⟩ = some (.int .i64 Ao):=(blk_cell Ad.out 3).trans rfl
           have hcz69_4 : wr.cell? ⟨Ac,4,none⟩ = some (.int .i64 An):=(blk_cell Ad.out 4).trans rfl
           have hcz69_5 : wr.cell? ⟨Ac,5,none⟩ = some (.int .i64 Am):=(blk_cell Ad.out 5).trans rfl
           have hcz69_6 : wr.cell? ⟨Ac,6,none⟩ = some (.int .i64 Aj):=(blk_cell Ad.out 6).trans rfl
           have hfz69_0:=blk_frozen Ad.out 0
           have hfz69_1:=blk_frozen Ad.out 1
           have hfz69_2:=blk_frozen Ad.out 2
           have hfz69_3:=blk_frozen Ad.out 3
           have hfz69_4:=blk_frozen Ad.out 4
           have hfz69_5:=blk_frozen Ad.out 5
           have hfz69_6:=blk_frozen Ad.out 6
           have hnb70:=Bd.out
           have hnc70:=Al.out
           have hcz71_0 : wr.cell? ⟨Ae,0,none⟩ = some (.int .i64 Az):=(blk_cell Af.out 0).trans rfl
           have hcz71_1 : wr.cell? ⟨Ae,1,none⟩ = some (.int .i64 Ay):=(blk_cell Af.out 1).trans rfl
           have hcz71_2 : wr.cell? ⟨Ae,2,none⟩ = some (.int .i64 Aw):=(blk_cell Af.out 2).trans rfl
           have hcz71_3 : wr.cell? ⟨Ae,3,none⟩ = some (.int .i64 Av):=(blk_cell Af.out 3).trans rfl
           have hcz71_4 : wr.cell? ⟨Ae,4,none⟩ = some (.int .i64 Au):=(blk_cell Af.out 4).trans rfl
           have hcz71_5 : wr.cell? ⟨Ae,5,none⟩ = some (.int .i64 At):=(blk_cell Af.out 5).trans rfl
           have hcz71_6 : wr.cell? ⟨Ae,6,none⟩ = some (.int .i64 As):=(blk_cell Af.out 6).trans rfl
           have hfz71_0:=blk_frozen Af.out 0
           have hfz71_1:=blk_frozen Af.out 1
           have hfz71_2:=blk_frozen Af.out 2
           have hfz71_3:=blk_frozen Af.out 3
           have hfz71_4:=blk_frozen Af.out 4
           have hfz71_5:=blk_frozen Af.out 5
           have hfz71_6:=blk_frozen Af.out 6
           go_wp2
           go_ret2
           exact ⟨by first|rfl|(simp [errW_none,errW_some] <;> rfl)|(simp [*,errW_none,errW_some] <;> rfl),by repeat (first|(with_reducible first|exact HB.out|apply below_alloc|apply pw_below_drewN|apply below_drew1|refine below_set ?_ Bm.out|refine below_set ?_ GE213.out|refine below_set ?_ GE214.out)|exact HB.out)⟩
 ·rw [if_neg c5] at H
  have c5b0 : (t186 == 0) = false:=beq_eq_false_iff_ne.mpr c5
  have c5b1 : (t186 != 0) = true:=bne_iff_ne.mpr c5
  simp only [Option.some.injEq,Prod.mk.injEq] at H
  obtain ⟨rfl,rfl⟩:=H
  go_enter Try.func5,Try.ntmps5
  go_wp2_with (first|((with_reducible refine gate_dst (N:=3) rfl ?_);refine box_event ?hg (N:=3) ?hd (cs:=#[.int .i64 a0_0,.int .i64 a0_1,.slice A0_2 l0_2.length c0_2,.int .i64 a0_3,.int .u32 a0_4]) (t:=25) ?hr ?_;(case hd=>rfl);(case hg=>rfl);(case hr=>first|(go_simp;done)|(go_simp;rfl));intro Ab hg w72 hbox hb;have n0_:=Aside0.mk (Kd.V_below (Kd.V_elderB (by (with_reducible repeat (first|apply Kd.V_alloc|apply Kd.V_drewN|apply Kd.V_drew));exact HO1.out) Ab (Nat.le_of_eq hg.symm)) hb);have n1_:=Aside0.mk (Kd.V_below (Kd.V_elderB (by (with_reducible repeat (first|apply Kd.V_alloc|apply Kd.V_drewN|apply Kd.V_drew));exact HO2.out) Ab (Nat.le_of_eq hg.symm)) hb);have n2_:=Aside0.mk (below_step qBs12_2 hb);have n3_:=Aside0.mk (hbox);have n4_:=Aside0.mk ((by rw [hg];exact (below_size qBs12_2) : w.heap.size ≤ Ab));have n5_:=Aside0.mk ((by rw [hg];exact (below_size qBs12_2) : w.heap.size ≤ Ab));clear HO1;clear HO2;clear HB;have HO1:=n0_;have HO2:=n1_;have HB:=n2_;have Aa:=n3_;have GW185:=n4_;have Bm:=n5_;clear n0_ n1_ n2_ n3_ n4_ n5_;clear hb hbox hg;have hcz73_0 : w72.cell? ⟨Ab,0,none⟩ = some (.int .i64 a0_0):=(blk_cell Aa.out 0).trans rfl;have hcz73_1 : w72.cell? ⟨Ab,1,none⟩ = some (.int .i64 a0_1):=(blk_cell Aa.out 1).trans rfl;have hcz73_2 : w72.cell? ⟨Ab,2,none⟩ = some (.slice A0_2 l0_2.length c0_2):=(blk_cell Aa.out 2).trans rfl;have hcz73_3 : w72.cell? ⟨Ab,3,none⟩ = some (.int .i64 a0_3):=(blk_cell Aa.out 3).trans rfl;have hcz73_4 : w72.cell? ⟨Ab,4,none⟩ = some (.int .u32 a0_4):=(blk_cell Aa.out 4).trans rfl;have hfz73_0:=blk_frozen Aa.out 0;have hfz73_1:=blk_frozen Aa.out 1;have hfz73_2:=blk_frozen Aa.out 2;have hfz73_3:=blk_frozen Aa.out 3;have hfz73_4:=blk_frozen Aa.out 4)|((with_reducible refine gate_callee (f:=13) rfl ?_);refine goesL_ (some 19) rfl rfl Try.func13 (by kernel_rfl) rfl #[.agg #[.int .i64 a0_0,.int .i64 a0_1,.slice A0_2 l0_2.length c0_2,.int .i64 a0_3,.int .u32 a0_4]] rfl qAs12_6 ?_;(with_reducible refine (machine_Check.calls k a0_0 a0_1 _ _ l0_2 a0_3 a0_4 t186 _ ?side1 ?side2 A4.out).mono ?_);(case side1=>repeat (first|exact (Kd.C_below HR0_2.out HB.out)|(with_reducible refine Kd.C_alloc ?_ _)|(with_reducible refine Kd.C_drewN ?_ _)|(with_reducible refine Kd.C_drew ?_)));(case side2=>exact HC0_2.out);rintro e w74 ⟨rfl,hb⟩;refine ⟨_,rfl,?_⟩;have n0_:=Aside0.mk (Kd.V_below (by (with_reducible repeat (first|apply Kd.V_alloc|apply Kd.V_drewN|apply Kd.V_drew));exact HO1.out) hb);have n1_:=Aside0.mk (Kd.V_below (by (with_reducible repeat (first|apply Kd.V_alloc|apply Kd.V_drewN|apply Kd.V_drew));exact HO2.out) hb);have n2_:=Aside0.mk (blk_below (g:=Ab) (o:=.cells #[.int .i64 a0_0,.int .i64 a0_1,.slice A0_2 l0_2.length c0_2,.int .i64 a0_3,.int .u32 a0_4] 25 (0,0)) (qDs12_ Aa.out) hb);have n3_:=Aside0.mk (below_step qBs12_3 hb);clear HO1;clear HO2;clear Aa;clear HB;have HO1:=n0_;have HO2:=n1_;have Aa:=n2_;have HB:=n3_;clear n0_ n1_ n2_ n3_;(try clear hb);(try clear hb2);(try clear hk);(try clear hi)))
  go_ret2
  exact ⟨by first|rfl|(simp [errW_none,errW_some] <;> rfl)|(simp [*,errW_none,errW_some] <;> rfl),by repeat (first|(with_reducible first|exact HB.out|apply below_alloc|apply pw_below_drewN|apply below_drew1|refine below_set ?_ Bm.out)|exact HB.out)⟩
end Go.Proofs.Yteppbihlpicjpaa.GM
