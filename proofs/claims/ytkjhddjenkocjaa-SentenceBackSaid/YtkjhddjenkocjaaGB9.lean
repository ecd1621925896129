-- Written by ext.py, a program of this session.
import Derived.Test.YtkjhddjenkocjaaGB0
import Derived.Test.YtkjhddjenkocjaaGB3
import Derived.Test.YtkjhddjenkocjaaGB8
namespace Go.Proofs.Ytkjhddjenkocjaa.GB
open Go.RowKit Go.Proofs.YtkjhddjenkocjaaW.PrintWords Go.Proofs.YtkjhddjenkocjaaW.PrintLast Go.Proofs.YtkjhddjenkocjaaW.PrintMore
attribute [local go_sem] max2_int min2_int max_two min_two max_three min_three max_four min_four cellIs_set   -- for this text's walks alone
set_option linter.unusedVariables false
set_option linter.unusedSimpArgs false
/-! ### sentence_Back: function 17 -/
def sentence_Back.l0 : Nat → List (S25) → Int → Int → Option ((List (S25)) × Int)
 | 0,_,_,_=>none
 | k + 1,x1,x18,x19=>if x19 < x18 then (if 0 ≤ x19 then (if x19 < (x1.length : Int) then (if ((rd_T25 x1 x19).f0) = 4 then ((some (x1.set (x19 : Int).toNat (⟨(rd_T25 x1 x19).f0,(rd_T25 x1 x19).f2,(rd_T25 x1 x19).f2⟩ : S25) : List (S25))).bind fun y171=>(sentence_Back.l0 k (y171.set (x19 : Int).toNat (⟨(rd_T25 y171 x19).f0,(rd_T25 y171 x19).f1,(rd_T25 x1 x19).f1⟩ : S25)) x18 (wrap64 (x19 + 1)))) else (sentence_Back.l0 k x1 x18 (wrap64 (x19 + 1)))) else (none)) else (none)) else (some (x1,0))
def sentence_Back.f (k : Nat) (a0 : Int) (l1 : List (S25)) : Option ((List (S25)) × Int):=(sentence_Check.f k a0 l1).bind fun t165=>(if t165 = 0 then ((api_Node.f l1).bind fun t166=>(sentence_Back.l0 k t166 (t166.length : Int) 0)) else (some (([] : List (S25)),t165)))
theorem sentence_Back.mono_l : ∀ k,(∀ y0 y1 y2,LeO (sentence_Back.l0 k y0 y1 y2) (sentence_Back.l0 (k + 1) y0 y1 y2))
 | 0=>fun _ _ _ r h=>by simp [sentence_Back.l0] at h
 | k + 1=>by
  have ih0:=sentence_Back.mono_l k
  ·intro y0 y1 y2
   unfold sentence_Back.l0
   repeat' first
   | (with_reducible exact ih0 _ _ _)
   | (with_reducible exact sentence_Check.mono _ _ _)
   | (with_reducible exact LeO.refl _)
   | (with_reducible exact LeO.none _)
   | (with_reducible refine LeO.ite ?_ ?_)
   | (with_reducible refine LeO.bind ?_ (fun _=>?_))
   | exact ih0 _ _ _
   | exact sentence_Check.mono _ _ _
   | exact LeO.none _
   | refine LeO.ite ?_ ?_
   | refine LeO.bind ?_ (fun _=>?_)
theorem sentence_Back.mono : ∀ a0 a1 k,LeO (sentence_Back.f k a0 a1) (sentence_Back.f (k + 1) a0 a1):=by
 intro a0 a1 k
 have ih0:=sentence_Back.mono_l k
 unfold sentence_Back.f
 repeat' first
   | (with_reducible exact ih0 _ _ _)
   | (with_reducible exact sentence_Check.mono _ _ _)
   | (with_reducible exact LeO.refl _)
   | (with_reducible exact LeO.none _)
   | (with_reducible refine LeO.ite ?_ ?_)
   | (with_reducible refine LeO.bind ?_ (fun _=>?_))
   | exact ih0 _ _ _
   | exact sentence_Check.mono _ _ _
   | exact LeO.none _
   | refine LeO.ite ?_ ?_
   | refine LeO.bind ?_ (fun _=>?_)
def sentence_Back.T9 : Bool × List (List Nat × List Nat):=(true,[([],[]),([],[]),([],[]),([],[]),([],[]),([4],[4]),([],[]),([6],[6]),([0,1,0,1,4,5],[0,1]),([8,0,1,4,5],[8]),([9,5,0,1,4,5],[5,9]),([2,3,0,1,2,3,4,5,6,7,8,9,10],[2,3]),([11,0,1,2,3,4,5,6,7,8,9,10],[11]),([12,7,10,0,1,2,3,4,5,6,7,8,9,10],[7,12])])
def sentence_Back.B9 : List Nat:=[0,0,0,0,0,16,0,64,51,307,819,2047,4095,8191]
theorem sentence_Back.tab9 : rtab .any (opsOf Try.f17 9) = sentence_Back.T9:=by kernel_rfl
theorem sentence_Back.bits9 : waitsOk sentence_Back.T9.2 sentence_Back.B9 = true:=by kernel_rfl
set_option maxHeartbeats 8000000 in
set_option maxRecDepth 100000 in
theorem sentence_Back.calls (k : Nat) (a0 : Int) (A1 : Option Addr) (c1 : Nat) (l1 : List (S25)) (r1 : List (S25)) (r2 : Int) (w : World) (hr1 : Kd.C k25 w A1 l1.length l1) (hc1 : l1.length ≤ c1) (h : sentence_Back.f k a0 l1 = some (r1,r2)) :
  Calls Try.prog 17 #[.int .i64 a0,.slice A1 l1.length c1] w fun e w'=>∃ v0_ : Value,e = .returned (.tuple #[v0_,.int .i64 r2]) ∧ Kd.R k25 25 w' w.heap.size (fun _=>True) v0_ r1 ∧ Below w.heap.size w w':=by
 have hu25:=Try.underlying25
 have HR1:=Aside0.mk hr1
 have HC1:=Aside0.mk hc1
 clear hr1 hc1
 have HB:=Aside0.mk (Below.refl w.heap.size w)
 have H : ((sentence_Check.f k a0 l1).bind fun t165=>(if t165 = 0 then ((api_Node.f l1).bind fun t166=>(sentence_Back.l0 k t166 (t166.length : Int) 0)) else (some (([] : List (S25)),t165)))) = some (r1,r2):=h
 clear h
 replace H:=Option.bind_eq_some_iff.mp H
 obtain ⟨t165,A30,H⟩:=H
 replace H : (if t165 = 0 then ((api_Node.f l1).bind fun t166=>(sentence_Back.l0 k t166 (t166.length : Int) 0)) else (some (([] : List (S25)),t165))) = some (r1,r2):=H
 have A3:=Aside0.mk A30
 clear A30
 by_cases c4 : t165 = 0
 ·rw [if_pos c4] at H
  have c4b0 : (t165 == 0) = true:=beq_iff_eq.mpr c4
  have c4b1 : (t165 != 0) = false:=bne_eq_false_iff_eq.mpr c4
  clear c4
  replace H:=Option.bind_eq_some_iff.mp H
  obtain ⟨t166,A50,H⟩:=H
  replace H : (sentence_Back.l0 k t166 (t166.length : Int) 0) = some (r1,r2):=H
  have A5:=Aside0.mk A50
  clear A50
  have H':=Aside0.mk H
  clear H
  go_enter Try.func17,Try.ntmps17
  go_wp2_with (first|((with_reducible refine gate_callee (f:=47) rfl ?_);refine goesL_ (some 11) rfl rfl Try.func47 (by kernel_rfl) rfl #[.int .i64 a0,.slice A1 l1.length c1] rfl (by (try simp only [List.map_toArray,List.map_cons,List.map_nil]);first|done|rfl|(simp only [List.length_drop,List.length_take];rfl)) ?_;(with_reducible refine (sentence_Check.calls k a0 _ _ l1 t165 _ ?side1 ?side2 A3.out).mono ?_);(case side1=>repeat (first|exact HR1.out|(with_reducible refine Kd.C_alloc ?_ _)|(with_reducible refine Kd.C_drewN ?_ _)|(with_reducible refine Kd.C_drew ?_)));(case side2=>exact HC1.out);rintro e w6 ⟨rfl,hb⟩;refine ⟨_,rfl,?_⟩;have n0_:=Aside0.mk (below_step (by repeat (first|(with_reducible first|exact HB.out|apply below_alloc|apply pw_below_drewN|apply below_drew1)|exact HB.out)) hb);clear HB;have HB:=n0_;clear n0_;(try clear hb);(try clear hb2);(try clear hk);(try clear hi))|((with_reducible refine gate_callee (f:=51) rfl ?_);refine goesL_ (some 16) rfl rfl Try.func51 (by kernel_rfl) rfl #[.slice A1 l1.length c1] rfl (by (try simp only [List.map_toArray,List.map_cons,List.map_nil]);first|done|rfl|(simp only [List.length_drop,List.length_take];rfl)) ?_;(with_reducible refine (api_Node.calls _ _ l1 t166 _ ?side1 ?side2 A5.out).mono ?_);(case side1=>repeat (first|exact (Kd.C_below HR1.out HB.out)|(with_reducible refine Kd.C_alloc ?_ _)|(with_reducible refine Kd.C_drewN ?_ _)|(with_reducible refine Kd.C_drew ?_)));(case side2=>exact HC1.out);rintro e w7 ⟨v167,rfl,ho0,hb⟩;refine ⟨_,rfl,?_⟩;have n0_:=Aside0.mk (Kd.R_lower ho0 (below_size (by repeat (first|(with_reducible first|exact HB.out|apply below_alloc|apply pw_below_drewN|apply below_drew1)|exact HB.out))));have n1_:=Aside0.mk (below_step (by repeat (first|(with_reducible first|exact HB.out|apply below_alloc|apply pw_below_drewN|apply below_drew1)|exact HB.out)) hb);clear HB;have HO168:=n0_;have HB:=n1_;clear n0_ n1_;(try clear hb);(try clear hb2);(try clear hk);(try clear hi);(try clear ho0);obtain ⟨Ao8,co8,eo8⟩:=Kd.R_slice HO168.out;subst eo8))
  go_loopg [19] k (fun kq v19 w'=>∃ (x1_1 : List (S25)) (x19_1 : Int),v19 = .int .i64 x19_1 ∧ Aside0 (sentence_Back.l0 kq x1_1 (t166.length : Int) x19_1 = some (r1,r2)) ∧ Aside0 (kq ≤ k) ∧ Aside0 (Kd.R k25 25 w' w.heap.size (fun _=>True) (.slice Ao8 t166.length co8) x1_1) ∧ Aside0 (Below w.heap.size w w'))
  case atStart=>exact ⟨(t166),(0),(by first|rfl|(simp;done)|(simp [*];done)),H',⟨Nat.le_refl _⟩,⟨by (with_reducible repeat (first|apply Kd.R_alloc|apply Kd.R_drewN|apply Kd.R_drew));exact HO168.out⟩,⟨by repeat (first|(with_reducible first|exact HB.out|apply below_alloc|apply pw_below_drewN|apply below_drew1)|exact HB.out)⟩⟩
  case round =>
   clear H'
   try clear c1
   try clear p2
   try clear c4
   try clear c4b0
   try clear c4b1
   try clear c5
   obtain ⟨x1_1,x19_1,rfl,HA,HK1,HO_1,HB⟩:=hrel
   have hl1_1:=(Kd.R_reads' HO_1.out).1
   rw [hl1_1] at HO_1
   (try simp only [hl1_1])
   cases gk with
   | zero=>exact absurd HA.out (by simp [sentence_Back.l0])
   | succ k1 =>
    have H:=HA.out
    clear HA
    simp only [sentence_Back.l0] at H
    by_cases c9 : x19_1 < (t166.length : Int)
    ·rw [if_pos c9] at H
     have c9b0 : decide (x19_1 < (t166.length : Int)) = true:=decide_eq_true c9
     (try (have c9b0h:=c9b0;simp only [hl1_1] at c9b0h))
     clear c9
     by_cases c10 : 0 ≤ x19_1
     ·rw [if_pos c10] at H
      have c10b0 : decide (0 ≤ x19_1) = true:=decide_eq_true c10
      clear c10
      by_cases c11 : x19_1 < (x1_1.length : Int)
      ·rw [if_pos c11] at H
       have c11b0 : decide (x19_1 < (x1_1.length : Int)) = true:=decide_eq_true c11
       (try (have c11b0h:=c11b0;simp only [hl1_1] at c11b0h))
       clear c11
       by_cases c12 : ((rd_T25 x1_1 x19_1).f0) = 4
       ·rw [if_pos c12] at H
        have c12b0 : (((rd_T25 x1_1 x19_1).f0) == 4) = true:=beq_iff_eq.mpr c12
        have c12b1 : (((rd_T25 x1_1 x19_1).f0) != 4) = false:=bne_eq_false_iff_eq.mpr c12
        clear c12
        obtain ⟨y171,hy171⟩ : ∃ y_ : List (S25),y_ = (x1_1.set (x19_1 : Int).toNat (⟨(rd_T25 x1_1 x19_1).f0,(rd_T25 x1_1 x19_1).f2,(rd_T25 x1_1 x19_1).f2⟩ : S25)):=⟨_,rfl⟩
        replace H : (sentence_Back.l0 k1 (y171.set (x19_1 : Int).toNat (⟨(rd_T25 y171 x19_1).f0,(rd_T25 y171 x19_1).f1,(rd_T25 x1_1 x19_1).f1⟩ : S25)) (t166.length : Int) (wrap64 (x19_1 + 1))) = some (r1,r2):=by first|(rw [hy171];with_reducible exact H)|(have H2_:=(Option.bind_some _ _).symm.trans H;rw [hy171];with_reducible exact H2_)|(have H2_:=(Option.bind_some _ _).symm.trans H;with_reducible exact H2_)|with_reducible exact H|(rw [hy171];exact H)|exact H
        have Ny171:=Aside0.mk hy171
        clear hy171
        obtain ⟨y172,hy172⟩ : ∃ y_ : List (S25),y_ = (y171.set (x19_1 : Int).toNat (⟨(rd_T25 y171 x19_1).f0,(rd_T25 y171 x19_1).f1,(rd_T25 x1_1 x19_1).f1⟩ : S25)):=⟨_,rfl⟩
        replace H : (sentence_Back.l0 k1 y172 (t166.length : Int) (wrap64 (x19_1 + 1))) = some (r1,r2):=by first|(rw [hy172];with_reducible exact H)|(have H2_:=(Option.bind_some _ _).symm.trans H;rw [hy172];with_reducible exact H2_)|(have H2_:=(Option.bind_some _ _).symm.trans H;with_reducible exact H2_)|with_reducible exact H|(rw [hy172];exact H)|exact H
        have Ny172:=Aside0.mk hy172
        clear hy172
        have H':=Aside0.mk H
        clear H
        have p169 : 0 ≤ (x19_1 : Int):=of_decide_eq_true (by first|(with_reducible assumption)|assumption)
        have q169 : x19_1 < (x1_1.length : Int):=of_decide_eq_true (by first|(with_reducible assumption)|assumption)
        obtain ⟨ad169,e169,hx169_0,hx169_1,hx169_2⟩:=at_T25 (Kd.R_reads' HO_1.out).2.2 x19_1 p169 q169
        cases e169
        replace p169:=eq_true p169
        replace q169:=eq_true q169
        try go_wp2_with (first|((with_reducible refine gate_dst (N:=8) rfl ?_);refine box_event ?hg (N:=8) ?hd (cs:=#[.int .i64 0,.int .i64 0,.int .i64 0]) (t:=25) ?hr ?_;(case hd=>rfl);(case hg=>rfl);(case hr=>first|(go_simp;done)|(go_simp;rfl));intro gb170 hg w15 hbox hb;have n0_:=Aside0.mk (Kd.R_below (Kd.R_elderB (by (with_reducible repeat (first|apply Kd.R_alloc|apply Kd.R_drewN|apply Kd.R_drew));exact HO_1.out) gb170 (Nat.le_of_eq hg.symm)) hb);have n1_:=Aside0.mk (below_step (by repeat (first|(with_reducible first|exact HB.out|apply below_alloc|apply pw_below_drewN|apply below_drew1)|exact HB.out)) hb);have n2_:=Aside0.mk (hbox);have n3_:=Aside0.mk ((by rw [hg];exact (below_size (by repeat (first|(with_reducible first|exact HB.out|apply below_alloc|apply pw_below_drewN|apply below_drew1)|exact HB.out))) : w.heap.size ≤ gb170));have n4_:=Aside0.mk ((by rw [hg];exact (below_size (by repeat (first|(with_reducible first|exact HB.out|apply below_alloc|apply pw_below_drewN|apply below_drew1)|exact HB.out))) : w.heap.size ≤ gb170));clear HO_1;clear HB;have HO_1:=n0_;have HB:=n1_;have BK170:=n2_;have GW170:=n3_;have GE170:=n4_;clear n0_ n1_ n2_ n3_ n4_;clear hb hbox hg;have hcz16_0 : w15.cell? ⟨gb170,0,none⟩ = some (.int .i64 0):=(blk_cell BK170.out 0).trans rfl;have hcz16_1 : w15.cell? ⟨gb170,1,none⟩ = some (.int .i64 0):=(blk_cell BK170.out 1).trans rfl;have hcz16_2 : w15.cell? ⟨gb170,2,none⟩ = some (.int .i64 0):=(blk_cell BK170.out 2).trans rfl;have hfz16_0:=blk_frozen BK170.out 0;have hfz16_1:=blk_frozen BK170.out 1;have hfz16_2:=blk_frozen BK170.out 2))
        have n0_ : Aside0 (Kd.R k25 25 (((w15.setCell ⟨gb170,0,none⟩ (.int .i64 ((rd_T25 x1_1 x19_1).f0))).setCell ⟨gb170,1,none⟩ (.int .i64 ((rd_T25 x1_1 x19_1).f1))).setCell ⟨gb170,2,none⟩ (.int .i64 ((rd_T25 x1_1 x19_1).f2))) w.heap.size (fun k_=>k_ ≠ gb170) (.slice (some ad169) x1_1.length co8) x1_1):=⟨by (with_reducible repeat (first|apply Kd.R_alloc|apply Kd.R_drewN|apply Kd.R_drew));exact Kd.R_mono (Kd.R_far (p:=⟨gb170,2,none⟩) (Kd.R_far (p:=⟨gb170,1,none⟩) (Kd.R_far (p:=⟨gb170,0,none⟩) (Kd.R_mono HO_1.out (fun k_ hk=>(⟨hk,hk.2⟩ : _ ∧ k_ ≠ gb170))) (fun _ hk=>hk.2) (.int .i64 ((rd_T25 x1_1 x19_1).f0))) (fun _ hk=>hk.2) (.int .i64 ((rd_T25 x1_1 x19_1).f1))) (fun _ hk=>hk.2) (.int .i64 ((rd_T25 x1_1 x19_1).f2))) (fun _ hk=>hk.1.2)⟩
        have n1_ : Aside0 ((((w15.setCell ⟨gb170,0,none⟩ (.int .i64 ((rd_T25 x1_1 x19_1).f0))).setCell ⟨gb170,1,none⟩ (.int .i64 ((rd_T25 x1_1 x19_1).f1))).setCell ⟨gb170,2,none⟩ (.int .i64 ((rd_T25 x1_1 x19_1).f2))).heap[gb170]? = some (.cells #[.int .i64 ((rd_T25 x1_1 x19_1).f0),.int .i64 ((rd_T25 x1_1 x19_1).f1),.int .i64 ((rd_T25 x1_1 x19_1).f2)] 25 (0,0))):=⟨by (with_reducible repeat (first|refine blk_drewN ?_ _|refine blk_drew ?_|refine blk_alloc ?_ _));refine blk_put (cs:=#[.int .i64 ((rd_T25 x1_1 x19_1).f0),.int .i64 ((rd_T25 x1_1 x19_1).f1),.int .i64 0]) ?_ 2 _ rfl;(with_reducible repeat (first|refine blk_drewN ?_ _|refine blk_drew ?_|refine blk_alloc ?_ _));refine blk_put (cs:=#[.int .i64 ((rd_T25 x1_1 x19_1).f0),.int .i64 0,.int .i64 0]) ?_ 1 _ rfl;(with_reducible repeat (first|refine blk_drewN ?_ _|refine blk_drew ?_|refine blk_alloc ?_ _));refine blk_put (cs:=#[.int .i64 0,.int .i64 0,.int .i64 0]) ?_ 0 _ rfl;(with_reducible repeat (first|refine blk_drewN ?_ _|refine blk_drew ?_|refine blk_alloc ?_ _));exact BK170.out⟩
        have n2_ : Aside0 (Below w.heap.size w (((w15.setCell ⟨gb170,0,none⟩ (.int .i64 ((rd_T25 x1_1 x19_1).f0))).setCell ⟨gb170,1,none⟩ (.int .i64 ((rd_T25 x1_1 x19_1).f1))).setCell ⟨gb170,2,none⟩ (.int .i64 ((rd_T25 x1_1 x19_1).f2)))):=⟨by repeat (first|(with_reducible first|exact HB.out|apply below_alloc|apply pw_below_drewN|apply below_drew1|refine below_set ?_ GE170.out)|exact HB.out)⟩
        (try clear HO_1)
        (try clear BK170)
        (try clear HB)
        generalize (((w15.setCell ⟨gb170,0,none⟩ (.int .i64 ((rd_T25 x1_1 x19_1).f0))).setCell ⟨gb170,1,none⟩ (.int .i64 ((rd_T25 x1_1 x19_1).f1))).setCell ⟨gb170,2,none⟩ (.int .i64 ((rd_T25 x1_1 x19_1).f2))) = w17 at n0_ n1_ n2_ ⊢
        have HO_1:=n0_
        have BK170:=n1_
        have HB:=n2_
        clear n0_ n1_ n2_
        have n0_:=Aside0.mk (Kd.R_drew HO_1.out)
        have n1_:=Aside0.mk (blk_drew BK170.out)
        have n2_:=Aside0.mk (below_drew1 HB.out)
        clear HO_1
        clear BK170
        clear HB
        have HO_1:=n0_
        have BK170:=n1_
        have HB:=n2_
        clear n0_ n1_ n2_
        have p13 : 0 ≤ (x19_1 : Int):=of_decide_eq_true (by first|(with_reducible assumption)|assumption)
        have q13 : (x19_1 : Int) < ((x1_1.length : Int) : Int):=of_decide_eq_true (by first|(with_reducible assumption)|assumption)
        obtain ⟨go13,co13,eo13,gb13,gl13,cl13,HG13⟩:=Kd.R_form HO_1.out (by omega)
        (first|cases eo13|(injection eo13 with ea_ en_ ec_;(first|subst ea_|(injection ea_ with ea_;subst ea_));subst ec_;clear en_))
        have GB13:=Aside0.mk gb13
        have GG13:=Aside0.mk HG13
        clear gb13 gl13 HG13
        (first|simp only [add_plain] at hx169_0|skip)
        (first|simp only [add_plain] at hx169_1|skip)
        (first|simp only [add_plain] at hx169_2|skip)
        obtain ⟨ce13,hcl13,hM13,hcc13,hfr13⟩:=Kd.R_elem HO_1.out z25 (x19_1 : Int) p13 q13
        obtain rfl:=k25_openM hM13
        have hx13_0 : World.cell? _ ⟨go13,(x19_1 : Int).toNat * 3,none⟩ = some (.int .i64 ((rd_T25 x1_1 x19_1).f0)):=hcc13 0 _ rfl
        have hx13_1 : World.cell? _ ⟨go13,(x19_1 : Int).toNat * 3 + 1,none⟩ = some (.int .i64 ((rd_T25 x1_1 x19_1).f1)):=hcc13 1 _ rfl
        have hx13_2 : World.cell? _ ⟨go13,(x19_1 : Int).toNat * 3 + 2,none⟩ = some (.int .i64 ((rd_T25 x1_1 x19_1).f2)):=hcc13 2 _ rfl
        have hf13_0 : World.frozen? _ ⟨go13,(x19_1 : Int).toNat * 3,none⟩ = false:=hfr13 0
        have hf13_1 : World.frozen? _ ⟨go13,(x19_1 : Int).toNat * 3 + 1,none⟩ = false:=hfr13 1
        have hf13_2 : World.frozen? _ ⟨go13,(x19_1 : Int).toNat * 3 + 2,none⟩ = false:=hfr13 2
        clear hcl13 hcc13 hfr13 hM13
        replace p13:=eq_true p13
        replace q13:=eq_true q13
        obtain ⟨ce19,hcl19,hM19,hcc19,hfr19⟩:=Kd.R_elem HO_1.out z25 (x19_1 : Int) (of_decide_eq_true (by first|(with_reducible assumption)|assumption)) (by have h_ : (x19_1 : Int) < ((x1_1.length : Int) : Int):=of_decide_eq_true (by first|(with_reducible assumption)|assumption);first|exact h_|(have e_:=(Kd.R_reads' HO_1.out).1;omega)|simpa using h_)
        obtain rfl:=k25_openM hM19
        have HP19:=(Kd.R_seg HO_1.out (x19_1 : Int) (of_decide_eq_true (by first|(with_reducible assumption)|assumption)) (by have h_ : (x19_1 : Int) < ((x1_1.length : Int) : Int):=of_decide_eq_true (by first|(with_reducible assumption)|assumption);first|exact h_|(have e_:=(Kd.R_reads' HO_1.out).1;omega)|simpa using h_) (seg:=[.int .i64 ((rd_T25 x1_1 x19_1).f2)]) (j:=1) hcl19 hcc19 (show 2 ≤ 3 from by decide) (x':=(⟨(rd_T25 x1_1 x19_1).f0,(rd_T25 x1_1 x19_1).f2,(rd_T25 x1_1 x19_1).f2⟩ : S25)) (k25_mkM _ _ _ (⟨(rd_T25 x1_1 x19_1).f0,(rd_T25 x1_1 x19_1).f2,(rd_T25 x1_1 x19_1).f2⟩ : S25) ) (fun _ hk=>hk)).1
        rw [← Ny171.out] at HP19
        have HQ19:=Aside0.mk HP19
        clear hcl19 hcc19 hfr19 hM19 HP19
        have p14 : 0 ≤ (x19_1 : Int):=of_decide_eq_true (by first|(with_reducible assumption)|assumption)
        have q14 : (x19_1 : Int) < ((x1_1.length : Int) : Int):=of_decide_eq_true (by first|(with_reducible assumption)|assumption)
        replace p14:=eq_true p14
        replace q14:=eq_true q14
        obtain ⟨ce20,hcl20,hM20,hcc20,hfr20⟩:=Kd.R_elem HQ19.out z25 (x19_1 : Int) (of_decide_eq_true (by first|(with_reducible assumption)|assumption)) (by have h_ : (x19_1 : Int) < ((x1_1.length : Int) : Int):=of_decide_eq_true (by first|(with_reducible assumption)|assumption);first|exact h_|(have e_:=(Kd.R_reads' HO_1.out).1;omega)|simpa using h_)
        obtain rfl:=k25_openM hM20
        have HP20:=(Kd.R_seg HQ19.out (x19_1 : Int) (of_decide_eq_true (by first|(with_reducible assumption)|assumption)) (by have h_ : (x19_1 : Int) < ((x1_1.length : Int) : Int):=of_decide_eq_true (by first|(with_reducible assumption)|assumption);first|exact h_|(have e_:=(Kd.R_reads' HO_1.out).1;omega)|simpa using h_) (seg:=[.int .i64 ((rd_T25 x1_1 x19_1).f1)]) (j:=2) hcl20 hcc20 (show 3 ≤ 3 from by decide) (x':=(⟨(rd_T25 y171 x19_1).f0,(rd_T25 y171 x19_1).f1,(rd_T25 x1_1 x19_1).f1⟩ : S25)) (k25_mkM _ _ _ (⟨(rd_T25 y171 x19_1).f0,(rd_T25 y171 x19_1).f1,(rd_T25 x1_1 x19_1).f1⟩ : S25) ) (fun _ hk=>hk)).1
        rw [← Ny172.out] at HP20
        have HQ20:=Aside0.mk HP20
        clear hcl20 hcc20 hfr20 hM20 HP20
        refine start_ (n:=14) (S:=fun w'=>w'.cell? ⟨gb170,0,none⟩ = some (.int .i64 ((rd_T25 x1_1 x19_1).f0)) ∧ w'.cell? ⟨gb170,1,none⟩ = some (.int .i64 ((rd_T25 x1_1 x19_1).f1)) ∧ w'.cell? ⟨gb170,2,none⟩ = some (.int .i64 ((rd_T25 x1_1 x19_1).f2))) (ds:=[]) #[false,false,false,false,false,false,false,false,false,false,false,false,false,false] (by kernel_rfl) rfl rfl ⟨(blk_cell BK170.out 0).trans rfl,(blk_cell BK170.out 1).trans rfl,(blk_cell BK170.out 2).trans rfl⟩ (fun hHeld=>?_);refine with_tabW sentence_Back.tab9 sentence_Back.bits9 (fun HT_ HW_=>?_)
        generalize w17.drew = w18 at HO_1 BK170 HB GG13 HQ19 HQ20 hf13_0 hf13_1 hf13_2 hx13_0 hx13_1 hx13_2 hx169_0 hx169_1 hx169_2 hHeld ⊢
        refine pure_ (i:=0) (N:=some 27) (v:=?_) (a':=?_) #[true,false,false,false,false,false,false,false,false,false,false,false,false,false] rfl rfl (any_of HT_.out (by kernel_rfl)) (fun _ _ _ h=>h) (Or.inl ⟨by rfl,?_⟩) ?_ ?_
        rotate_left
        ·intro w'
         go_simp
         with_reducible rfl
        rotate_left
        ·simp only [Act.put,List.setIfInBounds_toArray,List.set_cons_zero,List.set_cons_succ,i64_w,i32_w]
         rfl
        refine pure_ (i:=1) (N:=some 28) (v:=?_) (a':=?_) #[true,true,false,false,false,false,false,false,false,false,false,false,false,false] rfl rfl (any_of HT_.out (by kernel_rfl)) (fun _ _ _ h=>h) (Or.inl ⟨by rfl,?_⟩) ?_ ?_
        rotate_left
        ·intro w'
         go_simp
         with_reducible rfl
        rotate_left
        ·simp only [Act.put,List.setIfInBounds_toArray,List.set_cons_zero,List.set_cons_succ,i64_w,i32_w]
         rfl
        refine pure_ (i:=2) (N:=some 29) (v:=?_) (a':=?_) #[true,true,true,false,false,false,false,false,false,false,false,false,false,false] rfl rfl (any_of HT_.out (by kernel_rfl)) (fun _ _ _ h=>h) (Or.inl ⟨by rfl,?_⟩) ?_ ?_
        rotate_left
        ·intro w'
         go_simp
         with_reducible rfl
        rotate_left
        ·simp only [Act.put,List.setIfInBounds_toArray,List.set_cons_zero,List.set_cons_succ,i64_w,i32_w]
         rfl
        refine pure_ (i:=3) (N:=some 30) (v:=?_) (a':=?_) #[true,true,true,true,false,false,false,false,false,false,false,false,false,false] rfl rfl (any_of HT_.out (by kernel_rfl)) (fun _ _ _ h=>h) (Or.inl ⟨by rfl,?_⟩) ?_ ?_
        rotate_left
        ·intro w'
         go_simp
         with_reducible rfl
        rotate_left
        ·simp only [Act.put,List.setIfInBounds_toArray,List.set_cons_zero,List.set_cons_succ,i64_w,i32_w]
         rfl
        refine pure_ (i:=4) (N:=some 31) (v:=?_) (a':=?_) #[true,true,true,true,true,false,false,false,false,false,false,false,false,false] rfl rfl (any_of HT_.out (by kernel_rfl)) (fun _ _ _ h=>h) (Or.inl ⟨by rfl,?_⟩) ?_ ?_
        rotate_left
        ·intro w'
         go_simp
         with_reducible rfl
        rotate_left
        ·simp only [Act.put,List.setIfInBounds_toArray,List.set_cons_zero,List.set_cons_succ,i64_w,i32_w]
         rfl
        refine pure_ (i:=6) (N:=some 33) (v:=?_) (a':=?_) #[true,true,true,true,true,false,true,false,false,false,false,false,false,false] rfl rfl (any_of HT_.out (by kernel_rfl)) (fun _ _ _ h=>h) (Or.inl ⟨by rfl,?_⟩) ?_ ?_
        rotate_left
        ·intro w'
         go_simp
         with_reducible rfl
        rotate_left
        ·simp only [Act.put,List.setIfInBounds_toArray,List.set_cons_zero,List.set_cons_succ,i64_w,i32_w]
         rfl
        refine take_ (i:=5) (N:=some 32) (v:=?_) (a':=?_) #[true,true,true,true,true,true,true,false,false,false,false,false,false,false] rfl rfl (take_ofW HT_.out HW_.out (by kernel_rfl)) (fun _ _ _ h=>h) (Or.inl ⟨by rfl,?_⟩) hHeld ?_ ?_
        rotate_left
        ·rintro w' ⟨s0,s1,s2⟩
         go_simp
         with_reducible rfl
        rotate_left
        ·simp only [Act.put,List.setIfInBounds_toArray,List.set_cons_zero,List.set_cons_succ,i64_w,i32_w]
         rfl
        refine pure_ (i:=8) (N:=some 35) (v:=?_) (a':=?_) #[true,true,true,true,true,true,true,false,true,false,false,false,false,false] rfl rfl (any_of HT_.out (by kernel_rfl)) (fun _ _ _ h=>h) (Or.inl ⟨by rfl,?_⟩) ?_ ?_
        rotate_left
        ·intro w'
         go_simp
         with_reducible rfl
        rotate_left
        ·simp only [Act.put,List.setIfInBounds_toArray,List.set_cons_zero,List.set_cons_succ,i64_w,i32_w]
         rfl
        refine pure_ (i:=9) (N:=some 36) (v:=?_) (a':=?_) #[true,true,true,true,true,true,true,false,true,true,false,false,false,false] rfl rfl (any_of HT_.out (by kernel_rfl)) (fun _ _ _ h=>h) (Or.inl ⟨by rfl,?_⟩) ?_ ?_
        rotate_left
        ·intro w'
         go_simp
         with_reducible rfl
        rotate_left
        ·simp only [Act.put,List.setIfInBounds_toArray,List.set_cons_zero,List.set_cons_succ,i64_w,i32_w]
         rfl
        refine take_ (i:=7) (N:=some 34) (v:=?_) (a':=?_) #[true,true,true,true,true,true,true,true,true,true,false,false,false,false] rfl rfl (take_ofW HT_.out HW_.out (by kernel_rfl)) (fun _ _ _ h=>h) (Or.inl ⟨by rfl,?_⟩) hHeld ?_ ?_
        rotate_left
        ·rintro w' ⟨s0,s1,s2⟩
         go_simp
         with_reducible rfl
        rotate_left
        ·simp only [Act.put,List.setIfInBounds_toArray,List.set_cons_zero,List.set_cons_succ,i64_w,i32_w]
         rfl
        refine one_ (i:=10) (N:=none) #[true,true,true,true,true,true,true,true,true,true,true,false,false,false] rfl rfl (one_of HT_.out (by kernel_rfl)) (by decide) (fun K hK=>?_)
        refine skip_ (w1:=?_) (by rfl) rfl ?_ ?_
        rotate_left
        ·go_simp
         rfl
        refine hK.out _ _ ⟨((cell_far (p:=⟨go13,_,none⟩) (by first|exact (by have h_:=Kd.R_away HO_1.out (fun _ hk=>hk);intro e_;exact h_ (by first|(rw [e_];rfl)|(have e2_:=e_;dsimp only at e2_;first|(rw [e2_];rfl)|(rw [← e2_];rfl)|(subst e2_;rfl))))|exact Ne.symm (by have h_:=Kd.R_away HO_1.out (fun _ hk=>hk);intro e_;exact h_ (by first|(rw [e_];rfl)|(have e2_:=e_;dsimp only at e2_;first|(rw [e2_];rfl)|(rw [← e2_];rfl)|(subst e2_;rfl))))) _).trans (hHeld.1)),((cell_far (p:=⟨go13,_,none⟩) (by first|exact (by have h_:=Kd.R_away HO_1.out (fun _ hk=>hk);intro e_;exact h_ (by first|(rw [e_];rfl)|(have e2_:=e_;dsimp only at e2_;first|(rw [e2_];rfl)|(rw [← e2_];rfl)|(subst e2_;rfl))))|exact Ne.symm (by have h_:=Kd.R_away HO_1.out (fun _ hk=>hk);intro e_;exact h_ (by first|(rw [e_];rfl)|(have e2_:=e_;dsimp only at e2_;first|(rw [e2_];rfl)|(rw [← e2_];rfl)|(subst e2_;rfl))))) _).trans (hHeld.2.1)),((cell_far (p:=⟨go13,_,none⟩) (by first|exact (by have h_:=Kd.R_away HO_1.out (fun _ hk=>hk);intro e_;exact h_ (by first|(rw [e_];rfl)|(have e2_:=e_;dsimp only at e2_;first|(rw [e2_];rfl)|(rw [← e2_];rfl)|(subst e2_;rfl))))|exact Ne.symm (by have h_:=Kd.R_away HO_1.out (fun _ hk=>hk);intro e_;exact h_ (by first|(rw [e_];rfl)|(have e2_:=e_;dsimp only at e2_;first|(rw [e2_];rfl)|(rw [← e2_];rfl)|(subst e2_;rfl))))) _).trans (hHeld.2.2))⟩ (fun hHeld=>?_)
        clear hK K
        refine pure_ (i:=11) (N:=some 37) (v:=?_) (a':=?_) #[true,true,true,true,true,true,true,true,true,true,true,true,false,false] rfl rfl (any_of HT_.out (by kernel_rfl)) (fun _ _ _ h=>h) (Or.inl ⟨by rfl,?_⟩) ?_ ?_
        rotate_left
        ·intro w'
         go_simp
         with_reducible rfl
        rotate_left
        ·simp only [Act.put,List.setIfInBounds_toArray,List.set_cons_zero,List.set_cons_succ,i64_w,i32_w]
         rfl
        refine pure_ (i:=12) (N:=some 38) (v:=?_) (a':=?_) #[true,true,true,true,true,true,true,true,true,true,true,true,true,false] rfl rfl (any_of HT_.out (by kernel_rfl)) (fun _ _ _ h=>h) (Or.inl ⟨by rfl,?_⟩) ?_ ?_
        rotate_left
        ·intro w'
         go_simp
         with_reducible rfl
        rotate_left
        ·simp only [Act.put,List.setIfInBounds_toArray,List.set_cons_zero,List.set_cons_succ,i64_w,i32_w]
         rfl
        refine one_ (i:=13) (N:=none) #[true,true,true,true,true,true,true,true,true,true,true,true,true,true] rfl rfl (one_of HT_.out (by kernel_rfl)) (by decide) (fun K hK=>?_)
        refine skip_ (w1:=?_) (by rfl) rfl ?_ ?_
        rotate_left
        ·go_simp
         rfl
        refine hK.out _ _ ⟨((cell_far (p:=⟨go13,_,none⟩) (by first|exact (by have h_:=Kd.R_away HO_1.out (fun _ hk=>hk);intro e_;exact h_ (by first|(rw [e_];rfl)|(have e2_:=e_;dsimp only at e2_;first|(rw [e2_];rfl)|(rw [← e2_];rfl)|(subst e2_;rfl))))|exact Ne.symm (by have h_:=Kd.R_away HO_1.out (fun _ hk=>hk);intro e_;exact h_ (by first|(rw [e_];rfl)|(have e2_:=e_;dsimp only at e2_;first|(rw [e2_];rfl)|(rw [← e2_];rfl)|(subst e2_;rfl))))) _).trans (hHeld.1)),((cell_far (p:=⟨go13,_,none⟩) (by first|exact (by have h_:=Kd.R_away HO_1.out (fun _ hk=>hk);intro e_;exact h_ (by first|(rw [e_];rfl)|(have e2_:=e_;dsimp only at e2_;first|(rw [e2_];rfl)|(rw [← e2_];rfl)|(subst e2_;rfl))))|exact Ne.symm (by have h_:=Kd.R_away HO_1.out (fun _ hk=>hk);intro e_;exact h_ (by first|(rw [e_];rfl)|(have e2_:=e_;dsimp only at e2_;first|(rw [e2_];rfl)|(rw [← e2_];rfl)|(subst e2_;rfl))))) _).trans (hHeld.2.1)),((cell_far (p:=⟨go13,_,none⟩) (by first|exact (by have h_:=Kd.R_away HO_1.out (fun _ hk=>hk);intro e_;exact h_ (by first|(rw [e_];rfl)|(have e2_:=e_;dsimp only at e2_;first|(rw [e2_];rfl)|(rw [← e2_];rfl)|(subst e2_;rfl))))|exact Ne.symm (by have h_:=Kd.R_away HO_1.out (fun _ hk=>hk);intro e_;exact h_ (by first|(rw [e_];rfl)|(have e2_:=e_;dsimp only at e2_;first|(rw [e2_];rfl)|(rw [← e2_];rfl)|(subst e2_;rfl))))) _).trans (hHeld.2.2))⟩ (fun hHeld=>?_)
        clear hK K
        refine done_ (done_of HT_.out (by kernel_rfl)) ?_
        try go_wp2
        (try simp only [← hl1_1])
        go_roundg k1
        case measure=>have:=HK1.out;omega
        case rel=>exact ⟨(y172),(wrap64 (x19_1 + 1)),(by first|rfl|(simp;done)|(simp [*];done)),H',⟨by have:=HK1.out;omega⟩,⟨by (try simp only [hl1_1]);(with_reducible repeat (first|apply Kd.R_alloc|apply Kd.R_drewN|apply Kd.R_drew));exact Kd.R_mono HQ20.out (fun _ hk=>trivial)⟩,⟨by repeat (first|(with_reducible first|exact HB.out|apply below_alloc|apply pw_below_drewN|apply below_drew1|refine below_set ?_ GB13.out|refine below_set ?_ GB13.out|refine below_set ?_ GE170.out)|exact HB.out)⟩⟩
       ·rw [if_neg c12] at H
        have c12b0 : (((rd_T25 x1_1 x19_1).f0) == 4) = false:=beq_eq_false_iff_ne.mpr c12
        have c12b1 : (((rd_T25 x1_1 x19_1).f0) != 4) = true:=bne_iff_ne.mpr c12
        have H':=Aside0.mk H
        clear H
        have p169 : 0 ≤ (x19_1 : Int):=of_decide_eq_true (by first|(with_reducible assumption)|assumption)
        have q169 : x19_1 < (x1_1.length : Int):=of_decide_eq_true (by first|(with_reducible assumption)|assumption)
        obtain ⟨ad169,e169,hx169_0,hx169_1,hx169_2⟩:=at_T25 (Kd.R_reads' HO_1.out).2.2 x19_1 p169 q169
        cases e169
        replace p169:=eq_true p169
        replace q169:=eq_true q169
        go_wp2_with (first|((with_reducible refine gate_dst (N:=8) rfl ?_);refine box_event ?hg (N:=8) ?hd (cs:=#[.int .i64 0,.int .i64 0,.int .i64 0]) (t:=25) ?hr ?_;(case hd=>rfl);(case hg=>rfl);(case hr=>first|(go_simp;done)|(go_simp;rfl));intro gb170 hg w21 hbox hb;have n0_:=Aside0.mk (Kd.R_below (Kd.R_elderB (by (with_reducible repeat (first|apply Kd.R_alloc|apply Kd.R_drewN|apply Kd.R_drew));exact HO_1.out) gb170 (Nat.le_of_eq hg.symm)) hb);have n1_:=Aside0.mk (below_step (by repeat (first|(with_reducible first|exact HB.out|apply below_alloc|apply pw_below_drewN|apply below_drew1)|exact HB.out)) hb);have n2_:=Aside0.mk (hbox);have n3_:=Aside0.mk ((by rw [hg];exact (below_size (by repeat (first|(with_reducible first|exact HB.out|apply below_alloc|apply pw_below_drewN|apply below_drew1)|exact HB.out))) : w.heap.size ≤ gb170));have n4_:=Aside0.mk ((by rw [hg];exact (below_size (by repeat (first|(with_reducible first|exact HB.out|apply below_alloc|apply pw_below_drewN|apply below_drew1)|exact HB.out))) : w.heap.size ≤ gb170));clear HO_1;clear HB;have HO_1:=n0_;have HB:=n1_;have BK170:=n2_;have GW170:=n3_;have GE170:=n4_;clear n0_ n1_ n2_ n3_ n4_;clear hb hbox hg;have hcz22_0 : w21.cell? ⟨gb170,0,none⟩ = some (.int .i64 0):=(blk_cell BK170.out 0).trans rfl;have hcz22_1 : w21.cell? ⟨gb170,1,none⟩ = some (.int .i64 0):=(blk_cell BK170.out 1).trans rfl;have hcz22_2 : w21.cell? ⟨gb170,2,none⟩ = some (.int .i64 0):=(blk_cell BK170.out 2).trans rfl;have hfz22_0:=blk_frozen BK170.out 0;have hfz22_1:=blk_frozen BK170.out 1;have hfz22_2:=blk_frozen BK170.out 2))
        (try simp only [← hl1_1])
        go_roundg k1
        case measure=>have:=HK1.out;omega
        case rel=>exact ⟨(x1_1),(wrap64 (x19_1 + 1)),(by first|rfl|(simp;done)|(simp [*];done)),H',⟨by have:=HK1.out;omega⟩,⟨by (try simp only [hl1_1]);(with_reducible repeat (first|apply Kd.R_alloc|apply Kd.R_drewN|apply Kd.R_drew));exact Kd.R_mono (Kd.R_far (p:=⟨gb170,2,none⟩) (Kd.R_far (p:=⟨gb170,1,none⟩) (Kd.R_far (p:=⟨gb170,0,none⟩) (Kd.R_mono HO_1.out (fun k_ hk=>(⟨hk,hk.2⟩ : _ ∧ k_ ≠ gb170))) (fun _ hk=>hk.2) (.int .i64 ((rd_T25 x1_1 x19_1).f0))) (fun _ hk=>hk.2) (.int .i64 ((rd_T25 x1_1 x19_1).f1))) (fun _ hk=>hk.2) (.int .i64 ((rd_T25 x1_1 x19_1).f2))) (fun _ hk=>trivial)⟩,⟨by repeat (first|(with_reducible first|exact HB.out|apply below_alloc|apply pw_below_drewN|apply below_drew1|refine below_set ?_ GE170.out)|exact HB.out)⟩⟩
      ·rw [if_neg c11] at H
       exact absurd H (by simp)
     ·rw [if_neg c10] at H
      exact absurd H (by simp)
    ·rw [if_neg c9] at H
     have c9b0 : decide (x19_1 < (t166.length : Int)) = false:=decide_eq_false c9
     (try (have c9b0h:=c9b0;simp only [hl1_1] at c9b0h))
     clear c9
     simp only [Option.some.injEq,Prod.mk.injEq] at H
     obtain ⟨rfl,rfl⟩:=H
     go_wp2
     go_ret2
     exact ⟨_,by first|rfl|(simp [errW_none,errW_some] <;> rfl)|(simp [*,errW_none,errW_some] <;> rfl),by (with_reducible repeat (first|apply Kd.R_alloc|apply Kd.R_drewN|apply Kd.R_drew));exact HO_1.out,by repeat (first|(with_reducible first|exact HB.out|apply below_alloc|apply pw_below_drewN|apply below_drew1)|exact HB.out)⟩
 ·rw [if_neg c4] at H
  have c4b0 : (t165 == 0) = false:=beq_eq_false_iff_ne.mpr c4
  have c4b1 : (t165 != 0) = true:=bne_iff_ne.mpr c4
  simp only [Option.some.injEq,Prod.mk.injEq] at H
  obtain ⟨rfl,rfl⟩:=H
  go_enter Try.func17,Try.ntmps17
  go_wp2_with (first|((with_reducible refine gate_callee (f:=47) rfl ?_);refine goesL_ (some 11) rfl rfl Try.func47 (by kernel_rfl) rfl #[.int .i64 a0,.slice A1 l1.length c1] rfl (by (try simp only [List.map_toArray,List.map_cons,List.map_nil]);first|done|rfl|(simp only [List.length_drop,List.length_take];rfl)) ?_;(with_reducible refine (sentence_Check.calls k a0 _ _ l1 t165 _ ?side1 ?side2 A3.out).mono ?_);(case side1=>repeat (first|exact HR1.out|(with_reducible refine Kd.C_alloc ?_ _)|(with_reducible refine Kd.C_drewN ?_ _)|(with_reducible refine Kd.C_drew ?_)));(case side2=>exact HC1.out);rintro e w23 ⟨rfl,hb⟩;refine ⟨_,rfl,?_⟩;have n0_:=Aside0.mk (below_step (by repeat (first|(with_reducible first|exact HB.out|apply below_alloc|apply pw_below_drewN|apply below_drew1)|exact HB.out)) hb);clear HB;have HB:=n0_;clear n0_;(try clear hb);(try clear hb2);(try clear hk);(try clear hi)))
  go_ret2
  exact ⟨_,by first|rfl|(simp [errW_none,errW_some] <;> rfl)|(simp [*,errW_none,errW_some] <;> rfl),by first|exact Kd.R_nil _ _ _ _ _|exact Kd.N_nil _ _ _ _ _|exact Kd.V_nil _ _ _ _ _|exact Kd.Q_nil _ _ _ _ _|exact Kd.S_nil _ _ _ _ _,by repeat (first|(with_reducible first|exact HB.out|apply below_alloc|apply pw_below_drewN|apply below_drew1)|exact HB.out)⟩
end Go.Proofs.Ytkjhddjenkocjaa.GB
