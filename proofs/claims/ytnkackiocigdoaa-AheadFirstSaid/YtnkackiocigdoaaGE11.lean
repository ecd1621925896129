-- Written by ext.py, a program of this session.
import Derived.Test.YtnkackiocigdoaaGE0
import Derived.Test.YtnkackiocigdoaaGE10
namespace Go.Proofs.Ytnkackiocigdoaa.GE
open Go.RowKit Go.Proofs.YtnkackiocigdoaaW.PrintWords Go.Proofs.YtnkackiocigdoaaW.PrintLast Go.Proofs.YtnkackiocigdoaaW.PrintMore
attribute [local go_sem] max2_int min2_int max_two min_two max_three min_three max_four min_four cellIs_set   -- for this text's walks alone
set_option linter.unusedVariables false
set_option linter.unusedSimpArgs false
/-! ### ahead_firsts: function 51 -/
mutual
def ahead_firsts.l0 : Nat → Int → List Int → Bool → Int → Int → Int → List (S27) → Option (List Int)
 | 0,_,_,_,_,_,_,_=>none
 | k + 1,x1,x5,x6,x173000,x173001,x173002,x173003=>if x6 = true then (ahead_firsts.l1 k x1 x5 false x173003 (x173003.length : Int) 0 x173000 x173001 x173002 x173003) else (some x5)
def ahead_firsts.l1 : Nat → Int → List Int → Bool → List (S27) → Int → Int → Int → Int → Int → List (S27) → Option (List Int)
 | 0,_,_,_,_,_,_,_,_,_,_=>none
 | k + 1,x1,x5,x6,x16,x17,x18,x173000,x173001,x173002,x173003=>if x18 < x17 then (if 0 ≤ x18 then (if x18 < (x16.length : Int) then ((ahead_begin.f k x173000 x173001 x173002 x173003 x5 x1 ((rd_T27 x16 x18).f1)).bind fun bt178=>(if x6 = true then (if 0 ≤ ((rd_T27 x16 x18).f0) then (if ((rd_T27 x16 x18).f0) < (x5.length : Int) then (ahead_firsts.l1 k x1 (x5.set (((rd_T27 x16 x18).f0) : Int).toNat (Go.bits .or .u32 (rd x5 ((rd_T27 x16 x18).f0)) bt178.1)) true x16 x17 (wrap64 (x18 + 1)) x173000 x173001 x173002 x173003) else (none)) else (none)) else (if 0 ≤ ((rd_T27 x16 x18).f0) then (if ((rd_T27 x16 x18).f0) < (x5.length : Int) then (ahead_firsts.l1 k x1 (x5.set (((rd_T27 x16 x18).f0) : Int).toNat (Go.bits .or .u32 (rd x5 ((rd_T27 x16 x18).f0)) bt178.1)) ((Go.bits .andNot .u32 bt178.1 (rd x5 ((rd_T27 x16 x18).f0))) != 0) x16 x17 (wrap64 (x18 + 1)) x173000 x173001 x173002 x173003) else (none)) else (none)))) else (none)) else (none)) else (ahead_firsts.l0 k x1 x5 x6 x173000 x173001 x173002 x173003)
end
def ahead_firsts.f (k : Nat) (a0_0 : Int) (a0_1 : Int) (a0_2 : Int) (l0_3 : List (S27)) (a1 : Int) : Option (List Int):=if 0 ≤ a0_1 then (if (a0_1 : Int).toNat ≤ 70368744177664 then (ahead_firsts.l0 k a1 (List.replicate (a0_1 : Int).toNat 0) true a0_0 a0_1 a0_2 l0_3) else (none)) else (none)
theorem ahead_firsts.mono_l : ∀ k,(∀ y0 y1 y2 y3 y4 y5 y6,LeO (ahead_firsts.l0 k y0 y1 y2 y3 y4 y5 y6) (ahead_firsts.l0 (k + 1) y0 y1 y2 y3 y4 y5 y6)) ∧ (∀ y0 y1 y2 y3 y4 y5 y6 y7 y8 y9,LeO (ahead_firsts.l1 k y0 y1 y2 y3 y4 y5 y6 y7 y8 y9) (ahead_firsts.l1 (k + 1) y0 y1 y2 y3 y4 y5 y6 y7 y8 y9))
 | 0=>⟨fun _ _ _ _ _ _ _ r h=>by simp [ahead_firsts.l0] at h,fun _ _ _ _ _ _ _ _ _ _ r h=>by simp [ahead_firsts.l1] at h⟩
 | k + 1=>by
  obtain ⟨ih0,ih1⟩:=ahead_firsts.mono_l k
  refine ⟨?_,?_⟩
  ·intro y0 y1 y2 y3 y4 y5 y6
   unfold ahead_firsts.l0
   repeat' first
   | (with_reducible exact ih0 _ _ _ _ _ _ _)
   | (with_reducible exact ih1 _ _ _ _ _ _ _ _ _ _)
   | (with_reducible exact ahead_begin.mono _ _ _ _ _ _ _ _)
   | (with_reducible exact LeO.refl _)
   | (with_reducible exact LeO.none _)
   | (with_reducible refine LeO.ite ?_ ?_)
   | (with_reducible refine LeO.bind ?_ (fun _=>?_))
   | exact ih0 _ _ _ _ _ _ _
   | exact ih1 _ _ _ _ _ _ _ _ _ _
   | exact ahead_begin.mono _ _ _ _ _ _ _ _
   | exact LeO.none _
   | refine LeO.ite ?_ ?_
   | refine LeO.bind ?_ (fun _=>?_)
  ·intro y0 y1 y2 y3 y4 y5 y6 y7 y8 y9
   unfold ahead_firsts.l1
   repeat' first
   | (with_reducible exact ih0 _ _ _ _ _ _ _)
   | (with_reducible exact ih1 _ _ _ _ _ _ _ _ _ _)
   | (with_reducible exact ahead_begin.mono _ _ _ _ _ _ _ _)
   | (with_reducible exact LeO.refl _)
   | (with_reducible exact LeO.none _)
   | (with_reducible refine LeO.ite ?_ ?_)
   | (with_reducible refine LeO.bind ?_ (fun _=>?_))
   | exact ih0 _ _ _ _ _ _ _
   | exact ih1 _ _ _ _ _ _ _ _ _ _
   | exact ahead_begin.mono _ _ _ _ _ _ _ _
   | exact LeO.none _
   | refine LeO.ite ?_ ?_
   | refine LeO.bind ?_ (fun _=>?_)
theorem ahead_firsts.mono : ∀ a0 a1 a2 a3 a4 k,LeO (ahead_firsts.f k a0 a1 a2 a3 a4) (ahead_firsts.f (k + 1) a0 a1 a2 a3 a4):=by
 intro a0 a1 a2 a3 a4 k
 obtain ⟨ih0,ih1⟩:=ahead_firsts.mono_l k
 unfold ahead_firsts.f
 repeat' first
   | (with_reducible exact ih0 _ _ _ _ _ _ _)
   | (with_reducible exact ih1 _ _ _ _ _ _ _ _ _ _)
   | (with_reducible exact ahead_begin.mono _ _ _ _ _ _ _ _)
   | (with_reducible exact LeO.refl _)
   | (with_reducible exact LeO.none _)
   | (with_reducible refine LeO.ite ?_ ?_)
   | (with_reducible refine LeO.bind ?_ (fun _=>?_))
   | exact ih0 _ _ _ _ _ _ _
   | exact ih1 _ _ _ _ _ _ _ _ _ _
   | exact ahead_begin.mono _ _ _ _ _ _ _ _
   | exact LeO.none _
   | refine LeO.ite ?_ ?_
   | refine LeO.bind ?_ (fun _=>?_)
set_option maxHeartbeats 8000000 in
set_option maxRecDepth 100000 in
theorem ahead_firsts.calls (k : Nat) (a0_0 : Int) (a0_1 : Int) (a0_2 : Int) (A0_3 : Option Addr) (c0_3 : Nat) (l0_3 : List (S27)) (a1 : Int) (r : List Int) (w : World) (hr0_3 : Kd.C k27 w A0_3 l0_3.length l0_3) (hc0_3 : l0_3.length ≤ c0_3) (h : ahead_firsts.f k a0_0 a0_1 a0_2 l0_3 a1 = some r) :
  Calls Try.prog 51 #[.agg #[.int .i64 a0_0,.int .i64 a0_1,.int .i64 a0_2,.slice A0_3 l0_3.length c0_3],.int .u32 a1] w fun e w'=>∃ v0_ : Value,e = .returned (v0_) ∧ Kd.R (Kd.int .u32) 28 w' w.heap.size (fun _=>True) v0_ r ∧ Below w.heap.size w w':=by
 have hu24:=Try.underlying24
 have hu27:=Try.underlying27
 have HR0_3:=Aside0.mk hr0_3
 have HC0_3:=Aside0.mk hc0_3
 clear hr0_3 hc0_3
 have HB:=Aside0.mk (Below.refl w.heap.size w)
 have H : (if 0 ≤ a0_1 then (if (a0_1 : Int).toNat ≤ 70368744177664 then (ahead_firsts.l0 k a1 (List.replicate (a0_1 : Int).toNat 0) true a0_0 a0_1 a0_2 l0_3) else (none)) else (none)) = some r:=h
 clear h
 by_cases c3 : 0 ≤ a0_1
 ·rw [if_pos c3] at H
  have c3b0:=eq_true c3
  have c3b1 : decide (0 ≤ a0_1) = true:=decide_eq_true c3
  clear c3
  by_cases c4 : (a0_1 : Int).toNat ≤ 70368744177664
  ·rw [if_pos c4] at H
   have c4b0:=eq_true c4
   have c4b1 : decide ((a0_1 : Int).toNat ≤ 70368744177664) = true:=decide_eq_true c4
   clear c4
   obtain ⟨y173,hy173⟩ : ∃ y_ : List Int,y_ = (List.replicate (a0_1 : Int).toNat 0):=⟨_,rfl⟩
   replace H : (ahead_firsts.l0 k a1 y173 true a0_0 a0_1 a0_2 l0_3) = some r:=by first|(rw [hy173];with_reducible exact H)|(have H2_:=(Option.bind_some _ _).symm.trans H;rw [hy173];with_reducible exact H2_)|(have H2_:=(Option.bind_some _ _).symm.trans H;with_reducible exact H2_)|with_reducible exact H|(rw [hy173];exact H)|exact H
   have Ny173:=Aside0.mk hy173
   clear hy173
   have H':=Aside0.mk H
   clear H
   go_enter Try.func51,Try.ntmps51
   go_wp2_with (first|((with_reducible refine gate_dst (N:=2) rfl ?_);refine box_event ?hg (N:=2) ?hd (cs:=#[.int .i64 a0_0,.int .i64 a0_1,.int .i64 a0_2,.slice A0_3 l0_3.length c0_3]) (t:=24) ?hr ?_;(case hd=>rfl);(case hg=>rfl);(case hr=>first|(go_simp;done)|(go_simp;rfl));intro gb172 hg w5 hbox hb;have n0_:=Aside0.mk (below_step (by repeat (first|(with_reducible first|exact HB.out|apply below_alloc|apply pw_below_drewN|apply below_drew1)|exact HB.out)) hb);have n1_:=Aside0.mk (hbox);have n2_:=Aside0.mk ((by rw [hg];exact (below_size (by repeat (first|(with_reducible first|exact HB.out|apply below_alloc|apply pw_below_drewN|apply below_drew1)|exact HB.out))) : w.heap.size ≤ gb172));have n3_:=Aside0.mk ((by rw [hg];exact (below_size (by repeat (first|(with_reducible first|exact HB.out|apply below_alloc|apply pw_below_drewN|apply below_drew1)|exact HB.out))) : w.heap.size ≤ gb172));clear HB;have HB:=n0_;have BK172:=n1_;have GW172:=n2_;have GE172:=n3_;clear n0_ n1_ n2_ n3_;clear hb hbox hg;have hcz6_0 : w5.cell? ⟨gb172,0,none⟩ = some (.int .i64 a0_0):=(blk_cell BK172.out 0).trans rfl;have hcz6_1 : w5.cell? ⟨gb172,1,none⟩ = some (.int .i64 a0_1):=(blk_cell BK172.out 1).trans rfl;have hcz6_2 : w5.cell? ⟨gb172,2,none⟩ = some (.int .i64 a0_2):=(blk_cell BK172.out 2).trans rfl;have hcz6_3 : w5.cell? ⟨gb172,3,none⟩ = some (.slice A0_3 l0_3.length c0_3):=(blk_cell BK172.out 3).trans rfl;have hfz6_0:=blk_frozen BK172.out 0;have hfz6_1:=blk_frozen BK172.out 1;have hfz6_2:=blk_frozen BK172.out 2;have hfz6_3:=blk_frozen BK172.out 3)|((with_reducible refine gate_dst (N:=13) rfl ?_);refine Kd.R_make (Kd.int .u32) _ 28 rfl (N:=13) rfl 49 _ _ rfl a0_1 rfl rfl Try.underlying49 (.int .u32 0) 4 info28 rfl (by decide) (by omega) 0 (ok:=fun _=>True) (okp:=fun _=>True) rfl (fun _ hk=>hk) trivial (of_decide_eq_true (by first|(with_reducible assumption)|assumption)) (Nat.le_trans (Nat.mul_le_mul_right _ (of_decide_eq_true (by first|(with_reducible assumption)|assumption) : a0_1.toNat ≤ 70368744177664)) (by omega)) (Below.refl _ _) (Nat.le_refl _) ?_;intro v174 w7 ho8 hb hg_ hnew_;clear hg_ hnew_;(first|rw [← Ny173.out] at ho8|(simp only [Int.reduceToNat] at ho8;rw [← Ny173.out] at ho8));have n0_:=Aside0.mk (Kd.R_lower ho8 (below_size (by repeat (first|(with_reducible first|exact HB.out|apply below_alloc|apply pw_below_drewN|apply below_drew1|refine below_set ?_ GE172.out)|exact HB.out))));have n1_:=Aside0.mk (blk_below (g:=gb172) (o:=.cells #[.int .i64 a0_0,.int .i64 a0_1,.int .i64 a0_2,.slice A0_3 l0_3.length c0_3] 24 (0,0)) (by (with_reducible repeat (first|refine blk_drewN ?_ _|refine blk_drew ?_|refine blk_alloc ?_ _));exact BK172.out) hb);have n2_:=Aside0.mk (below_step (by repeat (first|(with_reducible first|exact HB.out|apply below_alloc|apply pw_below_drewN|apply below_drew1|refine below_set ?_ GE172.out)|exact HB.out)) hb);clear BK172;clear HB;have HO175:=n0_;have BK172:=n1_;have HB:=n2_;clear n0_ n1_ n2_;clear hb ho8))
   go_loopg [6] k (fun kq v6 w'=>∃ (x5_1 : List Int) (x6_1 : Bool),v6 = .bool x6_1 ∧ Aside0 (ahead_firsts.l0 kq a1 x5_1 x6_1 a0_0 a0_1 a0_2 l0_3 = some r) ∧ Aside0 (kq ≤ k) ∧ Aside0 (Kd.R (Kd.int .u32) 28 w' w.heap.size (fun _=>True) v174 x5_1) ∧ Aside0 (w'.heap[gb172]? = some (.cells #[.int .i64 a0_0,.int .i64 a0_1,.int .i64 a0_2,(.slice A0_3 l0_3.length c0_3)] 24 (0,0))) ∧ Aside0 (Below w.heap.size w w'))
   case atStart=>exact ⟨(y173),(true),(by first|rfl|(simp;done)|(simp [*];done)),H',⟨Nat.le_refl _⟩,⟨by (with_reducible repeat (first|apply Kd.R_alloc|apply Kd.R_drewN|apply Kd.R_drew));exact HO175.out⟩,⟨by (with_reducible repeat (first|refine blk_drewN ?_ _|refine blk_drew ?_|refine blk_alloc ?_ _));exact BK172.out⟩,⟨by repeat (first|(with_reducible first|exact HB.out|apply below_alloc|apply pw_below_drewN|apply below_drew1|refine below_set ?_ GE172.out)|exact HB.out)⟩⟩
   case round =>
    clear H'
    try clear p2
    try clear c3
    try clear c3b0
    try clear c3b1
    try clear c4
    try clear c4b0
    try clear c4b1
    try clear c5
    try clear hcz6_0
    try clear hcz6_1
    try clear hcz6_2
    try clear hcz6_3
    try clear hfz6_0
    try clear hfz6_1
    try clear hfz6_2
    try clear hfz6_3
    obtain ⟨x5_1,x6_1,rfl,HA,HK1,HO_5,BK172,HB⟩:=hrel
    cases gk with
    | zero=>exact absurd HA.out (by simp [ahead_firsts.l0])
    | succ k1 =>
     have H:=HA.out
     clear HA
     simp only [ahead_firsts.l0] at H
     by_cases c9 : x6_1 = true
     ·subst c9
      have H1 : (ahead_firsts.l1 k1 a1 x5_1 false l0_3 (l0_3.length : Int) 0 a0_0 a0_1 a0_2 l0_3) = some r:=by rw [if_pos rfl] at H;exact H
      clear H
      have H:=H1
      clear H1
      have H':=Aside0.mk H
      clear H
      have hcz10_0 : wr.cell? ⟨gb172,0,none⟩ = some (.int .i64 a0_0):=(blk_cell BK172.out 0).trans rfl
      have hcz10_1 : wr.cell? ⟨gb172,1,none⟩ = some (.int .i64 a0_1):=(blk_cell BK172.out 1).trans rfl
      have hcz10_2 : wr.cell? ⟨gb172,2,none⟩ = some (.int .i64 a0_2):=(blk_cell BK172.out 2).trans rfl
      have hcz10_3 : wr.cell? ⟨gb172,3,none⟩ = some (.slice A0_3 l0_3.length c0_3):=(blk_cell BK172.out 3).trans rfl
      have hfz10_0:=blk_frozen BK172.out 0
      have hfz10_1:=blk_frozen BK172.out 1
      have hfz10_2:=blk_frozen BK172.out 2
      have hfz10_3:=blk_frozen BK172.out 3
      go_wp2
      go_loopg [6,18] k1 (fun kq v6 v18 w'=>∃ (x5_2 : List Int) (x6_2 : Bool) (x18_2 : Int),v6 = .bool x6_2 ∧ v18 = .int .i64 x18_2 ∧ Aside0 (ahead_firsts.l1 kq a1 x5_2 x6_2 l0_3 (l0_3.length : Int) x18_2 a0_0 a0_1 a0_2 l0_3 = some r) ∧ Aside0 (kq ≤ k1) ∧ Aside0 (Kd.R (Kd.int .u32) 28 w' w.heap.size (fun _=>True) v174 x5_2) ∧ Aside0 (w'.heap[gb172]? = some (.cells #[.int .i64 a0_0,.int .i64 a0_1,.int .i64 a0_2,(.slice A0_3 l0_3.length c0_3)] 24 (0,0))) ∧ Aside0 (Below w.heap.size w w'))
      case atStart=>exact ⟨(x5_1),(false),(0),(by first|rfl|(simp;done)|(simp [*];done)),(by first|rfl|(simp;done)|(simp [*];done)),H',⟨Nat.le_refl _⟩,⟨by (with_reducible repeat (first|apply Kd.R_alloc|apply Kd.R_drewN|apply Kd.R_drew));exact HO_5.out⟩,⟨by (with_reducible repeat (first|refine blk_drewN ?_ _|refine blk_drew ?_|refine blk_alloc ?_ _));exact BK172.out⟩,⟨by repeat (first|(with_reducible first|exact HB.out|apply below_alloc|apply pw_below_drewN|apply below_drew1|refine below_set ?_ GE172.out)|exact HB.out)⟩⟩
      case round =>
       clear H'
       try clear p2
       try clear c3
       try clear c3b0
       try clear c3b1
       try clear c4
       try clear c4b0
       try clear c4b1
       try clear c5
       try clear c9
       try clear hcz10_0
       try clear hcz10_1
       try clear hcz10_2
       try clear hcz10_3
       try clear hcz6_0
       try clear hcz6_1
       try clear hcz6_2
       try clear hcz6_3
       try clear hfz10_0
       try clear hfz10_1
       try clear hfz10_2
       try clear hfz10_3
       try clear hfz6_0
       try clear hfz6_1
       try clear hfz6_2
       try clear hfz6_3
       try clear p2
       obtain ⟨x5_2,x6_2,x18_2,rfl,rfl,HA,HK2,HO_5,BK172,HB⟩:=hrel
       cases gk with
       | zero=>exact absurd HA.out (by simp [ahead_firsts.l1])
       | succ k2 =>
        have H:=HA.out
        clear HA
        simp only [ahead_firsts.l1] at H
        by_cases c11 : x18_2 < (l0_3.length : Int)
        ·rw [if_pos c11] at H
         have c11b0 : decide (x18_2 < (l0_3.length : Int)) = true:=decide_eq_true c11
         clear c11
         by_cases c12 : 0 ≤ x18_2
         ·rw [if_pos c12] at H
          have c12b0 : decide (0 ≤ x18_2) = true:=decide_eq_true c12
          clear c12
          by_cases c13 : x18_2 < (l0_3.length : Int)
          ·rw [if_pos c13] at H
           have c13b0 : decide (x18_2 < (l0_3.length : Int)) = true:=decide_eq_true c13
           clear c13
           replace H:=Option.bind_eq_some_iff.mp H
           obtain ⟨⟨t178,t179⟩,A140,H⟩:=H
           replace H : (if x6_2 = true then (if 0 ≤ ((rd_T27 l0_3 x18_2).f0) then (if ((rd_T27 l0_3 x18_2).f0) < (x5_2.length : Int) then (ahead_firsts.l1 k2 a1 (x5_2.set (((rd_T27 l0_3 x18_2).f0) : Int).toNat (Go.bits .or .u32 (rd x5_2 ((rd_T27 l0_3 x18_2).f0)) t178)) true l0_3 (l0_3.length : Int) (wrap64 (x18_2 + 1)) a0_0 a0_1 a0_2 l0_3) else (none)) else (none)) else (if 0 ≤ ((rd_T27 l0_3 x18_2).f0) then (if ((rd_T27 l0_3 x18_2).f0) < (x5_2.length : Int) then (ahead_firsts.l1 k2 a1 (x5_2.set (((rd_T27 l0_3 x18_2).f0) : Int).toNat (Go.bits .or .u32 (rd x5_2 ((rd_T27 l0_3 x18_2).f0)) t178)) ((Go.bits .andNot .u32 t178 (rd x5_2 ((rd_T27 l0_3 x18_2).f0))) != 0) l0_3 (l0_3.length : Int) (wrap64 (x18_2 + 1)) a0_0 a0_1 a0_2 l0_3) else (none)) else (none))) = some r:=H
           have A14:=Aside0.mk A140
           clear A140
           by_cases c15 : x6_2 = true
           ·subst c15
            have H1 : (if 0 ≤ ((rd_T27 l0_3 x18_2).f0) then (if ((rd_T27 l0_3 x18_2).f0) < (x5_2.length : Int) then (ahead_firsts.l1 k2 a1 (x5_2.set (((rd_T27 l0_3 x18_2).f0) : Int).toNat (Go.bits .or .u32 (rd x5_2 ((rd_T27 l0_3 x18_2).f0)) t178)) true l0_3 (l0_3.length : Int) (wrap64 (x18_2 + 1)) a0_0 a0_1 a0_2 l0_3) else (none)) else (none)) = some r:=by rw [if_pos rfl] at H;exact H
            clear H
            have H:=H1
            clear H1
            by_cases c16 : 0 ≤ ((rd_T27 l0_3 x18_2).f0)
            ·rw [if_pos c16] at H
             have c16b0 : decide (0 ≤ ((rd_T27 l0_3 x18_2).f0)) = true:=decide_eq_true c16
             clear c16
             by_cases c17 : ((rd_T27 l0_3 x18_2).f0) < (x5_2.length : Int)
             ·rw [if_pos c17] at H
              have c17b0 : decide (((rd_T27 l0_3 x18_2).f0) < (x5_2.length : Int)) = true:=decide_eq_true c17
              clear c17
              obtain ⟨y181,hy181⟩ : ∃ y_ : List Int,y_ = (x5_2.set (((rd_T27 l0_3 x18_2).f0) : Int).toNat (Go.bits .or .u32 (rd x5_2 ((rd_T27 l0_3 x18_2).f0)) t178)):=⟨_,rfl⟩
              replace H : (ahead_firsts.l1 k2 a1 y181 true l0_3 (l0_3.length : Int) (wrap64 (x18_2 + 1)) a0_0 a0_1 a0_2 l0_3) = some r:=by first|(rw [hy181];with_reducible exact H)|(have H2_:=(Option.bind_some _ _).symm.trans H;rw [hy181];with_reducible exact H2_)|(have H2_:=(Option.bind_some _ _).symm.trans H;with_reducible exact H2_)|with_reducible exact H|(rw [hy181];exact H)|exact H
              have Ny181:=Aside0.mk hy181
              clear hy181
              have H':=Aside0.mk H
              clear H
              have p176 : 0 ≤ (x18_2 : Int):=of_decide_eq_true (by first|(with_reducible assumption)|assumption)
              have q176 : x18_2 < (l0_3.length : Int):=of_decide_eq_true (by first|(with_reducible assumption)|assumption)
              obtain ⟨ad176,A176_1,c176_1,e176,hx176_0,hx176_1,hl176_1,hi176_1⟩:=at_T27 HR0_3.out x18_2 p176 q176
              cases e176
              replace hx176_0:=(HB.out.cell (World.block_lt_of_cell? w _ hx176_0)).trans hx176_0
              replace hx176_1:=(HB.out.cell (World.block_lt_of_cell? w _ hx176_1)).trans hx176_1
              have HR176_1:=Aside0.mk hi176_1
              have HC176_1:=Aside0.mk hl176_1
              clear hi176_1 hl176_1
              replace p176:=eq_true p176
              replace q176:=eq_true q176
              go_wp2_with (first|((with_reducible refine gate_dst (N:=8) rfl ?_);refine box_event ?hg (N:=8) ?hd (cs:=#[.int .i64 0,.slice none 0 0]) (t:=27) ?hr ?_;(case hd=>rfl);(case hg=>rfl);(case hr=>first|(go_simp;done)|(go_simp;rfl));intro gb177 hg w19 hbox hb;have n0_:=Aside0.mk (Kd.R_below (by (with_reducible repeat (first|apply Kd.R_alloc|apply Kd.R_drewN|apply Kd.R_drew));exact HO_5.out) hb);have n1_:=Aside0.mk (blk_below (g:=gb172) (o:=.cells #[.int .i64 a0_0,.int .i64 a0_1,.int .i64 a0_2,.slice (some ad176) l0_3.length c0_3] 24 (0,0)) (by (with_reducible repeat (first|refine blk_drewN ?_ _|refine blk_drew ?_|refine blk_alloc ?_ _));exact BK172.out) hb);have n2_:=Aside0.mk (below_step (by repeat (first|(with_reducible first|exact HB.out|apply below_alloc|apply pw_below_drewN|apply below_drew1|refine below_set ?_ GE172.out)|exact HB.out)) hb);have n3_:=Aside0.mk (hbox);have n4_:=Aside0.mk ((by rw [hg];exact (below_size (by repeat (first|(with_reducible first|exact HB.out|apply below_alloc|apply pw_below_drewN|apply below_drew1|refine below_set ?_ GE172.out)|exact HB.out))) : w.heap.size ≤ gb177));have n5_:=Aside0.mk ((by rw [hg];exact (below_size (by repeat (first|(with_reducible first|exact HB.out|apply below_alloc|apply pw_below_drewN|apply below_drew1|refine below_set ?_ GE172.out)|exact HB.out))) : w.heap.size ≤ gb177));have n6_:=Aside0.mk ((by rw [hg];exact Nat.ne_of_lt (blk_lt (g:=gb172) (o:=.cells #[.int .i64 a0_0,.int .i64 a0_1,.int .i64 a0_2,.slice (some ad176) l0_3.length c0_3] 24 (0,0)) (by (with_reducible repeat (first|refine blk_drewN ?_ _|refine blk_drew ?_|refine blk_alloc ?_ _));exact BK172.out)) : gb172 ≠ gb177));have n7_:=Aside0.mk ((by rw [hg];exact Nat.ne_of_gt (blk_lt (g:=gb172) (o:=.cells #[.int .i64 a0_0,.int .i64 a0_1,.int .i64 a0_2,.slice (some ad176) l0_3.length c0_3] 24 (0,0)) (by (with_reducible repeat (first|refine blk_drewN ?_ _|refine blk_drew ?_|refine blk_alloc ?_ _));exact BK172.out)) : gb177 ≠ gb172));clear HO_5;clear BK172;clear HB;have HO_5:=n0_;have BK172:=n1_;have HB:=n2_;have BK177:=n3_;have GW177:=n4_;have GE177:=n5_;have NB172_177:=n6_;have NB177_172:=n7_;clear n0_ n1_ n2_ n3_ n4_ n5_ n6_ n7_;clear hb hbox hg;have hnb20:=NB177_172.out;have hnc20:=NB172_177.out;have hcz21_0 : w19.cell? ⟨gb177,0,none⟩ = some (.int .i64 0):=(blk_cell BK177.out 0).trans rfl;have hcz21_1 : w19.cell? ⟨gb177,1,none⟩ = some (.slice none 0 0):=(blk_cell BK177.out 1).trans rfl;have hfz21_0:=blk_frozen BK177.out 0;have hfz21_1:=blk_frozen BK177.out 1;have hcz22_0 : w19.cell? ⟨gb172,0,none⟩ = some (.int .i64 a0_0):=(blk_cell BK172.out 0).trans rfl;have hcz22_1 : w19.cell? ⟨gb172,1,none⟩ = some (.int .i64 a0_1):=(blk_cell BK172.out 1).trans rfl;have hcz22_2 : w19.cell? ⟨gb172,2,none⟩ = some (.int .i64 a0_2):=(blk_cell BK172.out 2).trans rfl;have hcz22_3 : w19.cell? ⟨gb172,3,none⟩ = some (.slice (some ad176) l0_3.length c0_3):=(blk_cell BK172.out 3).trans rfl;have hfz22_0:=blk_frozen BK172.out 0;have hfz22_1:=blk_frozen BK172.out 1;have hfz22_2:=blk_frozen BK172.out 2;have hfz22_3:=blk_frozen BK172.out 3;obtain ⟨Ao23,co23,eo23⟩:=Kd.R_slice HO_5.out;subst eo23)|((with_reducible refine gate_callee (f:=83) rfl ?_);refine goesL_ (some 28) rfl rfl Try.func83 (by kernel_rfl) rfl #[.agg #[.int .i64 a0_0,.int .i64 a0_1,.int .i64 a0_2,.slice (some ad176) l0_3.length c0_3],.slice Ao23 x5_2.length co23,.int .u32 a1,.slice A176_1 ((rd_T27 l0_3 x18_2).f1).length c176_1] rfl (by (try simp only [List.map_toArray,List.map_cons,List.map_nil]);first|done|rfl|(simp only [List.length_drop,List.length_take];rfl)) ?_;(with_reducible refine (ahead_begin.calls k2 a0_0 a0_1 a0_2 _ _ l0_3 _ _ x5_2 a1 _ _ ((rd_T27 l0_3 x18_2).f1) t178 t179 _ ?side1 ?side2 ?side3 ?side4 ?side5 ?side6 A14.out).mono ?_);(case side1=>exact Kd.C_below HR0_3.out (by repeat (first|(with_reducible first|exact HB.out|apply below_alloc|apply pw_below_drewN|apply below_drew1|refine below_set ?_ GE172.out|refine below_set ?_ GE177.out)|exact HB.out)));(case side2=>exact HC0_3.out);(case side3=>refine (Kd.R_reads' (e:=28) (base:=w.heap.size) (ok:=fun k_=>True) (n:=x5_2.length) (c:=co23) ?_).2.2;exact (by (with_reducible repeat (first|apply Kd.R_alloc|apply Kd.R_drewN|apply Kd.R_drew));exact (Kd.R_mono (Kd.R_far (p:=⟨gb177,1,none⟩) (Kd.R_far (p:=⟨gb177,0,none⟩) (Kd.R_types HO_5.out BK177.out (by decide)) (fun _ hk=>hk.2) (.int .i64 ((rd_T27 l0_3 x18_2).f0))) (fun _ hk=>hk.2) (.slice A176_1 ((rd_T27 l0_3 x18_2).f1).length c176_1)) (fun _ h_=>h_.1))));(case side4=>exact (Kd.R_reads' HO_5.out).2.1);(case side5=>exact Kd.C_below HR176_1.out (by repeat (first|(with_reducible first|exact HB.out|apply below_alloc|apply pw_below_drewN|apply below_drew1|refine below_set ?_ GE172.out|refine below_set ?_ GE177.out)|exact HB.out)));(case side6=>exact HC176_1.out);rintro e w24 ⟨rfl,hb⟩;refine ⟨_,rfl,?_⟩;have n0_:=Aside0.mk (Kd.R_below (by (with_reducible repeat (first|apply Kd.R_alloc|apply Kd.R_drewN|apply Kd.R_drew));exact (Kd.R_mono (Kd.R_far (p:=⟨gb177,1,none⟩) (Kd.R_far (p:=⟨gb177,0,none⟩) (Kd.R_types HO_5.out BK177.out (by decide)) (fun _ hk=>hk.2) (.int .i64 ((rd_T27 l0_3 x18_2).f0))) (fun _ hk=>hk.2) (.slice A176_1 ((rd_T27 l0_3 x18_2).f1).length c176_1)) (fun _ h_=>h_.1))) hb);have n1_:=Aside0.mk (blk_below (g:=gb172) (o:=.cells #[.int .i64 a0_0,.int .i64 a0_1,.int .i64 a0_2,.slice (some ad176) l0_3.length c0_3] 24 (0,0)) (by (with_reducible repeat (first|refine blk_drewN ?_ _|refine blk_drew ?_|refine blk_alloc ?_ _));refine blk_far ?_ NB172_177.out _;(with_reducible repeat (first|refine blk_drewN ?_ _|refine blk_drew ?_|refine blk_alloc ?_ _));refine blk_far ?_ NB172_177.out _;(with_reducible repeat (first|refine blk_drewN ?_ _|refine blk_drew ?_|refine blk_alloc ?_ _));exact BK172.out) hb);have n2_:=Aside0.mk (blk_below (g:=gb177) (o:=.cells #[.int .i64 ((rd_T27 l0_3 x18_2).f0),.slice A176_1 ((rd_T27 l0_3 x18_2).f1).length c176_1] 27 (0,0)) (by (with_reducible repeat (first|refine blk_drewN ?_ _|refine blk_drew ?_|refine blk_alloc ?_ _));refine blk_put (cs:=#[.int .i64 ((rd_T27 l0_3 x18_2).f0),.slice none 0 0]) ?_ 1 _ rfl;(with_reducible repeat (first|refine blk_drewN ?_ _|refine blk_drew ?_|refine blk_alloc ?_ _));refine blk_put (cs:=#[.int .i64 0,.slice none 0 0]) ?_ 0 _ rfl;(with_reducible repeat (first|refine blk_drewN ?_ _|refine blk_drew ?_|refine blk_alloc ?_ _));exact BK177.out) hb);have n3_:=Aside0.mk (below_step (by repeat (first|(with_reducible first|exact HB.out|apply below_alloc|apply pw_below_drewN|apply below_drew1|refine below_set ?_ GE172.out|refine below_set ?_ GE177.out)|exact HB.out)) hb);clear HO_5;clear BK172;clear BK177;clear HB;have HO_5:=n0_;have BK172:=n1_;have BK177:=n2_;have HB:=n3_;clear n0_ n1_ n2_ n3_;(try clear hb);(try clear hb2);(try clear hk);(try clear hi);have hcz25_0 : w24.cell? ⟨gb177,0,none⟩ = some (.int .i64 ((rd_T27 l0_3 x18_2).f0)):=(blk_cell BK177.out 0).trans rfl;have hcz25_1 : w24.cell? ⟨gb177,1,none⟩ = some (.slice A176_1 ((rd_T27 l0_3 x18_2).f1).length c176_1):=(blk_cell BK177.out 1).trans rfl;have hfz25_0:=blk_frozen BK177.out 0;have hfz25_1:=blk_frozen BK177.out 1;have p180 : 0 ≤ (((rd_T27 l0_3 x18_2).f0) : Int):=of_decide_eq_true (by first|(with_reducible assumption)|assumption);have q180 : ((rd_T27 l0_3 x18_2).f0) < (x5_2.length : Int):=of_decide_eq_true (by first|(with_reducible assumption)|assumption);obtain ⟨ad180,e180,hx180_0⟩:=Kd.at_int (Kd.R_reads' HO_5.out).2.2 ((rd_T27 l0_3 x18_2).f0) p180 q180;cases e180;replace p180:=eq_true p180;replace q180:=eq_true q180;have p18 : 0 ≤ (((rd_T27 l0_3 x18_2).f0) : Int):=of_decide_eq_true (by first|(with_reducible assumption)|assumption);have q18 : (((rd_T27 l0_3 x18_2).f0) : Int) < ((x5_2.length : Int) : Int):=of_decide_eq_true (by first|(with_reducible assumption)|assumption);obtain ⟨go18,co18,eo18,gb18,gl18,cl18,HG18⟩:=Kd.R_form HO_5.out (by omega);(first|cases eo18|(injection eo18 with ea_ en_ ec_;(first|subst ea_|(injection ea_ with ea_;subst ea_));subst ec_;clear en_));have GB18:=Aside0.mk gb18;have GG18:=Aside0.mk HG18;clear gb18 gl18 HG18;(first|simp only [add_plain] at hx180_0|skip);obtain ⟨hx18_0,hf18_0⟩:=Kd.R_celln 0 HO_5.out (((rd_T27 l0_3 x18_2).f0) : Int) p18 q18;replace p18:=eq_true p18;replace q18:=eq_true q18;obtain ⟨hy26_,hz26_⟩:=Kd.R_celln 0 HO_5.out (((rd_T27 l0_3 x18_2).f0) : Int) (of_decide_eq_true (by first|(with_reducible assumption)|assumption)) (of_decide_eq_true (by first|(with_reducible assumption)|assumption));have HP26:=Kd.R_putg HO_5.out (((rd_T27 l0_3 x18_2).f0) : Int) (Go.bits .or .u32 (rd x5_2 ((rd_T27 l0_3 x18_2).f0)) t178))|((with_reducible refine gate_store (t:=28) (p:=49) rfl ?_);refine store_event (t:=28) (p:=49) (v:=?vo_w27) (w1:=(w24.setCell ⟨go18,(((rd_T27 l0_3 x18_2).f0) : Int).toNat,none⟩ (.int .u32 (Go.bits .or .u32 (rd x5_2 ((rd_T27 l0_3 x18_2).f0)) t178)))) ?hg ?ho ?hn ?hr ?_;(case ho=>rfl);(case hg=>rfl);(case hn=>rfl);(case hr=>first|(go_simp;done)|(go_simp;rfl));intro w27 hw;have hg : w24.grownBy w27 (some go18):=(by rw [hw];exact HP26.2);have hp_ : Kd.R (Kd.int .u32) 28 w27 w.heap.size (fun _=>True) (.slice (some ⟨go18,0,none⟩) x5_2.length co23) y181:=(by rw [hw,Ny181.out];exact HP26.1);clear HP26;have n0_:=Aside0.mk (hp_);have n1_:=Aside0.mk (blk_grown (g:=gb172) (o:=.cells #[.int .i64 a0_0,.int .i64 a0_1,.int .i64 a0_2,.slice (some ad176) l0_3.length c0_3] 24 (0,0)) (by (with_reducible repeat (first|refine blk_drewN ?_ _|refine blk_drew ?_|refine blk_alloc ?_ _));exact BK172.out) hg (Kd.R_ne HO_5.out BK172.out (by decide)));have n2_:=Aside0.mk (blk_grown (g:=gb177) (o:=.cells #[.int .i64 ((rd_T27 l0_3 x18_2).f0),.slice A176_1 ((rd_T27 l0_3 x18_2).f1).length c176_1] 27 (0,0)) (by (with_reducible repeat (first|refine blk_drewN ?_ _|refine blk_drew ?_|refine blk_alloc ?_ _));exact BK177.out) hg (Kd.R_ne HO_5.out BK177.out (by decide)));have n3_:=Aside0.mk ((by rw [hw];exact below_set (HB.out) GB18.out : Below w.heap.size w w27));clear HO_5;clear BK172;clear BK177;clear HB;have HO_5:=n0_;have BK172:=n1_;have BK177:=n2_;have HB:=n3_;clear n0_ n1_ n2_ n3_;clear hg hw hp_))
              go_roundg k2
              case measure=>have:=HK1.out;have:=HK2.out;omega
              case rel=>exact ⟨(y181),(true),(wrap64 (x18_2 + 1)),(by first|rfl|(simp;done)|(simp [*];done)),(by first|rfl|(simp;done)|(simp [*];done)),H',⟨by have:=HK1.out;have:=HK2.out;omega⟩,⟨by (with_reducible repeat (first|apply Kd.R_alloc|apply Kd.R_drewN|apply Kd.R_drew));exact HO_5.out⟩,⟨by (with_reducible repeat (first|refine blk_drewN ?_ _|refine blk_drew ?_|refine blk_alloc ?_ _));exact BK172.out⟩,⟨by repeat (first|(with_reducible first|exact HB.out|apply below_alloc|apply pw_below_drewN|apply below_drew1|refine below_set ?_ GE172.out|refine below_set ?_ GE177.out)|exact HB.out)⟩⟩
             ·rw [if_neg c17] at H
              exact absurd H (by simp)
            ·rw [if_neg c16] at H
             exact absurd H (by simp)
           ·replace c15:=Bool.eq_false_iff.mpr c15
            subst c15
            have H1 : (if 0 ≤ ((rd_T27 l0_3 x18_2).f0) then (if ((rd_T27 l0_3 x18_2).f0) < (x5_2.length : Int) then (ahead_firsts.l1 k2 a1 (x5_2.set (((rd_T27 l0_3 x18_2).f0) : Int).toNat (Go.bits .or .u32 (rd x5_2 ((rd_T27 l0_3 x18_2).f0)) t178)) ((Go.bits .andNot .u32 t178 (rd x5_2 ((rd_T27 l0_3 x18_2).f0))) != 0) l0_3 (l0_3.length : Int) (wrap64 (x18_2 + 1)) a0_0 a0_1 a0_2 l0_3) else (none)) else (none)) = some r:=by rw [if_neg (show ¬ (false = true) by decide)] at H;exact H
            clear H
            have H:=H1
            clear H1
            by_cases c28 : 0 ≤ ((rd_T27 l0_3 x18_2).f0)
            ·rw [if_pos c28] at H
             have c28b0 : decide (0 ≤ ((rd_T27 l0_3 x18_2).f0)) = true:=decide_eq_true c28
             clear c28
             by_cases c29 : ((rd_T27 l0_3 x18_2).f0) < (x5_2.length : Int)
             ·rw [if_pos c29] at H
              have c29b0 : decide (((rd_T27 l0_3 x18_2).f0) < (x5_2.length : Int)) = true:=decide_eq_true c29
              clear c29
              obtain ⟨y184,hy184⟩ : ∃ y_ : List Int,y_ = (x5_2.set (((rd_T27 l0_3 x18_2).f0) : Int).toNat (Go.bits .or .u32 (rd x5_2 ((rd_T27 l0_3 x18_2).f0)) t178)):=⟨_,rfl⟩
              replace H : (ahead_firsts.l1 k2 a1 y184 ((Go.bits .andNot .u32 t178 (rd x5_2 ((rd_T27 l0_3 x18_2).f0))) != 0) l0_3 (l0_3.length : Int) (wrap64 (x18_2 + 1)) a0_0 a0_1 a0_2 l0_3) = some r:=by first|(rw [hy184];with_reducible exact H)|(have H2_:=(Option.bind_some _ _).symm.trans H;rw [hy184];with_reducible exact H2_)|(have H2_:=(Option.bind_some _ _).symm.trans H;with_reducible exact H2_)|with_reducible exact H|(rw [hy184];exact H)|exact H
              have Ny184:=Aside0.mk hy184
              clear hy184
              have H':=Aside0.mk H
              clear H
              have p176 : 0 ≤ (x18_2 : Int):=of_decide_eq_true (by first|(with_reducible assumption)|assumption)
              have q176 : x18_2 < (l0_3.length : Int):=of_decide_eq_true (by first|(with_reducible assumption)|assumption)
              obtain ⟨ad176,A176_1,c176_1,e176,hx176_0,hx176_1,hl176_1,hi176_1⟩:=at_T27 HR0_3.out x18_2 p176 q176
              cases e176
              replace hx176_0:=(HB.out.cell (World.block_lt_of_cell? w _ hx176_0)).trans hx176_0
              replace hx176_1:=(HB.out.cell (World.block_lt_of_cell? w _ hx176_1)).trans hx176_1
              have HR176_1:=Aside0.mk hi176_1
              have HC176_1:=Aside0.mk hl176_1
              clear hi176_1 hl176_1
              replace p176:=eq_true p176
              replace q176:=eq_true q176
              go_wp2_with (first|((with_reducible refine gate_dst (N:=8) rfl ?_);refine box_event ?hg (N:=8) ?hd (cs:=#[.int .i64 0,.slice none 0 0]) (t:=27) ?hr ?_;(case hd=>rfl);(case hg=>rfl);(case hr=>first|(go_simp;done)|(go_simp;rfl));intro gb177 hg w31 hbox hb;have n0_:=Aside0.mk (Kd.R_below (by (with_reducible repeat (first|apply Kd.R_alloc|apply Kd.R_drewN|apply Kd.R_drew));exact HO_5.out) hb);have n1_:=Aside0.mk (blk_below (g:=gb172) (o:=.cells #[.int .i64 a0_0,.int .i64 a0_1,.int .i64 a0_2,.slice (some ad176) l0_3.length c0_3] 24 (0,0)) (by (with_reducible repeat (first|refine blk_drewN ?_ _|refine blk_drew ?_|refine blk_alloc ?_ _));exact BK172.out) hb);have n2_:=Aside0.mk (below_step (by repeat (first|(with_reducible first|exact HB.out|apply below_alloc|apply pw_below_drewN|apply below_drew1|refine below_set ?_ GE172.out)|exact HB.out)) hb);have n3_:=Aside0.mk (hbox);have n4_:=Aside0.mk ((by rw [hg];exact (below_size (by repeat (first|(with_reducible first|exact HB.out|apply below_alloc|apply pw_below_drewN|apply below_drew1|refine below_set ?_ GE172.out)|exact HB.out))) : w.heap.size ≤ gb177));have n5_:=Aside0.mk ((by rw [hg];exact (below_size (by repeat (first|(with_reducible first|exact HB.out|apply below_alloc|apply pw_below_drewN|apply below_drew1|refine below_set ?_ GE172.out)|exact HB.out))) : w.heap.size ≤ gb177));have n6_:=Aside0.mk ((by rw [hg];exact Nat.ne_of_lt (blk_lt (g:=gb172) (o:=.cells #[.int .i64 a0_0,.int .i64 a0_1,.int .i64 a0_2,.slice (some ad176) l0_3.length c0_3] 24 (0,0)) (by (with_reducible repeat (first|refine blk_drewN ?_ _|refine blk_drew ?_|refine blk_alloc ?_ _));exact BK172.out)) : gb172 ≠ gb177));have n7_:=Aside0.mk ((by rw [hg];exact Nat.ne_of_gt (blk_lt (g:=gb172) (o:=.cells #[.int .i64 a0_0,.int .i64 a0_1,.int .i64 a0_2,.slice (some ad176) l0_3.length c0_3] 24 (0,0)) (by (with_reducible repeat (first|refine blk_drewN ?_ _|refine blk_drew ?_|refine blk_alloc ?_ _));exact BK172.out)) : gb177 ≠ gb172));clear HO_5;clear BK172;clear HB;have HO_5:=n0_;have BK172:=n1_;have HB:=n2_;have BK177:=n3_;have GW177:=n4_;have GE177:=n5_;have NB172_177:=n6_;have NB177_172:=n7_;clear n0_ n1_ n2_ n3_ n4_ n5_ n6_ n7_;clear hb hbox hg;have hnb32:=NB177_172.out;have hnc32:=NB172_177.out;have hcz33_0 : w31.cell? ⟨gb177,0,none⟩ = some (.int .i64 0):=(blk_cell BK177.out 0).trans rfl;have hcz33_1 : w31.cell? ⟨gb177,1,none⟩ = some (.slice none 0 0):=(blk_cell BK177.out 1).trans rfl;have hfz33_0:=blk_frozen BK177.out 0;have hfz33_1:=blk_frozen BK177.out 1;have hcz34_0 : w31.cell? ⟨gb172,0,none⟩ = some (.int .i64 a0_0):=(blk_cell BK172.out 0).trans rfl;have hcz34_1 : w31.cell? ⟨gb172,1,none⟩ = some (.int .i64 a0_1):=(blk_cell BK172.out 1).trans rfl;have hcz34_2 : w31.cell? ⟨gb172,2,none⟩ = some (.int .i64 a0_2):=(blk_cell BK172.out 2).trans rfl;have hcz34_3 : w31.cell? ⟨gb172,3,none⟩ = some (.slice (some ad176) l0_3.length c0_3):=(blk_cell BK172.out 3).trans rfl;have hfz34_0:=blk_frozen BK172.out 0;have hfz34_1:=blk_frozen BK172.out 1;have hfz34_2:=blk_frozen BK172.out 2;have hfz34_3:=blk_frozen BK172.out 3;obtain ⟨Ao35,co35,eo35⟩:=Kd.R_slice HO_5.out;subst eo35)|((with_reducible refine gate_callee (f:=83) rfl ?_);refine goesL_ (some 28) rfl rfl Try.func83 (by kernel_rfl) rfl #[.agg #[.int .i64 a0_0,.int .i64 a0_1,.int .i64 a0_2,.slice (some ad176) l0_3.length c0_3],.slice Ao35 x5_2.length co35,.int .u32 a1,.slice A176_1 ((rd_T27 l0_3 x18_2).f1).length c176_1] rfl (by (try simp only [List.map_toArray,List.map_cons,List.map_nil]);first|done|rfl|(simp only [List.length_drop,List.length_take];rfl)) ?_;(with_reducible refine (ahead_begin.calls k2 a0_0 a0_1 a0_2 _ _ l0_3 _ _ x5_2 a1 _ _ ((rd_T27 l0_3 x18_2).f1) t178 t179 _ ?side1 ?side2 ?side3 ?side4 ?side5 ?side6 A14.out).mono ?_);(case side1=>exact Kd.C_below HR0_3.out (by repeat (first|(with_reducible first|exact HB.out|apply below_alloc|apply pw_below_drewN|apply below_drew1|refine below_set ?_ GE172.out|refine below_set ?_ GE177.out)|exact HB.out)));(case side2=>exact HC0_3.out);(case side3=>refine (Kd.R_reads' (e:=28) (base:=w.heap.size) (ok:=fun k_=>True) (n:=x5_2.length) (c:=co35) ?_).2.2;exact (by (with_reducible repeat (first|apply Kd.R_alloc|apply Kd.R_drewN|apply Kd.R_drew));exact (Kd.R_mono (Kd.R_far (p:=⟨gb177,1,none⟩) (Kd.R_far (p:=⟨gb177,0,none⟩) (Kd.R_types HO_5.out BK177.out (by decide)) (fun _ hk=>hk.2) (.int .i64 ((rd_T27 l0_3 x18_2).f0))) (fun _ hk=>hk.2) (.slice A176_1 ((rd_T27 l0_3 x18_2).f1).length c176_1)) (fun _ h_=>h_.1))));(case side4=>exact (Kd.R_reads' HO_5.out).2.1);(case side5=>exact Kd.C_below HR176_1.out (by repeat (first|(with_reducible first|exact HB.out|apply below_alloc|apply pw_below_drewN|apply below_drew1|refine below_set ?_ GE172.out|refine below_set ?_ GE177.out)|exact HB.out)));(case side6=>exact HC176_1.out);rintro e w36 ⟨rfl,hb⟩;refine ⟨_,rfl,?_⟩;have n0_:=Aside0.mk (Kd.R_below (by (with_reducible repeat (first|apply Kd.R_alloc|apply Kd.R_drewN|apply Kd.R_drew));exact (Kd.R_mono (Kd.R_far (p:=⟨gb177,1,none⟩) (Kd.R_far (p:=⟨gb177,0,none⟩) (Kd.R_types HO_5.out BK177.out (by decide)) (fun _ hk=>hk.2) (.int .i64 ((rd_T27 l0_3 x18_2).f0))) (fun _ hk=>hk.2) (.slice A176_1 ((rd_T27 l0_3 x18_2).f1).length c176_1)) (fun _ h_=>h_.1))) hb);have n1_:=Aside0.mk (blk_below (g:=gb172) (o:=.cells #[.int .i64 a0_0,.int .i64 a0_1,.int .i64 a0_2,.slice (some ad176) l0_3.length c0_3] 24 (0,0)) (by (with_reducible repeat (first|refine blk_drewN ?_ _|refine blk_drew ?_|refine blk_alloc ?_ _));refine blk_far ?_ NB172_177.out _;(with_reducible repeat (first|refine blk_drewN ?_ _|refine blk_drew ?_|refine blk_alloc ?_ _));refine blk_far ?_ NB172_177.out _;(with_reducible repeat (first|refine blk_drewN ?_ _|refine blk_drew ?_|refine blk_alloc ?_ _));exact BK172.out) hb);have n2_:=Aside0.mk (blk_below (g:=gb177) (o:=.cells #[.int .i64 ((rd_T27 l0_3 x18_2).f0),.slice A176_1 ((rd_T27 l0_3 x18_2).f1).length c176_1] 27 (0,0)) (by (with_reducible repeat (first|refine blk_drewN ?_ _|refine blk_drew ?_|refine blk_alloc ?_ _));refine blk_put (cs:=#[.int .i64 ((rd_T27 l0_3 x18_2).f0),.slice none 0 0]) ?_ 1 _ rfl;(with_reducible repeat (first|refine blk_drewN ?_ _|refine blk_drew ?_|refine blk_alloc ?_ _));refine blk_put (cs:=#[.int .i64 0,.slice none 0 0]) ?_ 0 _ rfl;(with_reducible repeat (first|refine blk_drewN ?_ _|refine blk_drew ?_|refine blk_alloc ?_ _));exact BK177.out) hb);have n3_:=Aside0.mk (below_step (by repeat (first|(with_reducible first|exact HB.out|apply below_alloc|apply pw_below_drewN|apply below_drew1|refine below_set ?_ GE172.out|refine below_set ?_ GE177.out)|exact HB.out)) hb);clear HO_5;clear BK172;clear BK177;clear HB;have HO_5:=n0_;have BK172:=n1_;have BK177:=n2_;have HB:=n3_;clear n0_ n1_ n2_ n3_;(try clear hb);(try clear hb2);(try clear hk);(try clear hi);have hcz37_0 : w36.cell? ⟨gb177,0,none⟩ = some (.int .i64 ((rd_T27 l0_3 x18_2).f0)):=(blk_cell BK177.out 0).trans rfl;have hcz37_1 : w36.cell? ⟨gb177,1,none⟩ = some (.slice A176_1 ((rd_T27 l0_3 x18_2).f1).length c176_1):=(blk_cell BK177.out 1).trans rfl;have hfz37_0:=blk_frozen BK177.out 0;have hfz37_1:=blk_frozen BK177.out 1;have p182 : 0 ≤ (((rd_T27 l0_3 x18_2).f0) : Int):=of_decide_eq_true (by first|(with_reducible assumption)|assumption);have q182 : ((rd_T27 l0_3 x18_2).f0) < (x5_2.length : Int):=of_decide_eq_true (by first|(with_reducible assumption)|assumption);obtain ⟨ad182,e182,hx182_0⟩:=Kd.at_int (Kd.R_reads' HO_5.out).2.2 ((rd_T27 l0_3 x18_2).f0) p182 q182;cases e182;replace p182:=eq_true p182;replace q182:=eq_true q182;have p183 : 0 ≤ (((rd_T27 l0_3 x18_2).f0) : Int):=of_decide_eq_true (by first|(with_reducible assumption)|assumption);have q183 : ((rd_T27 l0_3 x18_2).f0) < (x5_2.length : Int):=of_decide_eq_true (by first|(with_reducible assumption)|assumption);obtain ⟨ad183,e183,hx183_0⟩:=Kd.at_int (Kd.R_reads' HO_5.out).2.2 ((rd_T27 l0_3 x18_2).f0) p183 q183;obtain rfl : ad182 = ad183:=(by injection e183);replace p183:=eq_true p183;replace q183:=eq_true q183;have p30 : 0 ≤ (((rd_T27 l0_3 x18_2).f0) : Int):=of_decide_eq_true (by first|(with_reducible assumption)|assumption);have q30 : (((rd_T27 l0_3 x18_2).f0) : Int) < ((x5_2.length : Int) : Int):=of_decide_eq_true (by first|(with_reducible assumption)|assumption);obtain ⟨go30,co30,eo30,gb30,gl30,cl30,HG30⟩:=Kd.R_form HO_5.out (by omega);(first|cases eo30|(injection eo30 with ea_ en_ ec_;(first|subst ea_|(injection ea_ with ea_;subst ea_));subst ec_;clear en_));have GB30:=Aside0.mk gb30;have GG30:=Aside0.mk HG30;clear gb30 gl30 HG30;(first|simp only [add_plain] at hx182_0|skip);(first|simp only [add_plain] at hx183_0|skip);obtain ⟨hx30_0,hf30_0⟩:=Kd.R_celln 0 HO_5.out (((rd_T27 l0_3 x18_2).f0) : Int) p30 q30;replace p30:=eq_true p30;replace q30:=eq_true q30;obtain ⟨hy38_,hz38_⟩:=Kd.R_celln 0 HO_5.out (((rd_T27 l0_3 x18_2).f0) : Int) (of_decide_eq_true (by first|(with_reducible assumption)|assumption)) (of_decide_eq_true (by first|(with_reducible assumption)|assumption));have HP38:=Kd.R_putg HO_5.out (((rd_T27 l0_3 x18_2).f0) : Int) (Go.bits .or .u32 (rd x5_2 ((rd_T27 l0_3 x18_2).f0)) t178))|((with_reducible refine gate_store (t:=28) (p:=49) rfl ?_);refine store_event (t:=28) (p:=49) (v:=?vo_w39) (w1:=(w36.setCell ⟨go30,(((rd_T27 l0_3 x18_2).f0) : Int).toNat,none⟩ (.int .u32 (Go.bits .or .u32 (rd x5_2 ((rd_T27 l0_3 x18_2).f0)) t178)))) ?hg ?ho ?hn ?hr ?_;(case ho=>rfl);(case hg=>rfl);(case hn=>rfl);(case hr=>first|(go_simp;done)|(go_simp;rfl));intro w39 hw;have hg : w36.grownBy w39 (some go30):=(by rw [hw];exact HP38.2);have hp_ : Kd.R (Kd.int .u32) 28 w39 w.heap.size (fun _=>True) (.slice (some ⟨go30,0,none⟩) x5_2.length co35) y184:=(by rw [hw,Ny184.out];exact HP38.1);clear HP38;have n0_:=Aside0.mk (hp_);have n1_:=Aside0.mk (blk_grown (g:=gb172) (o:=.cells #[.int .i64 a0_0,.int .i64 a0_1,.int .i64 a0_2,.slice (some ad176) l0_3.length c0_3] 24 (0,0)) (by (with_reducible repeat (first|refine blk_drewN ?_ _|refine blk_drew ?_|refine blk_alloc ?_ _));exact BK172.out) hg (Kd.R_ne HO_5.out BK172.out (by decide)));have n2_:=Aside0.mk (blk_grown (g:=gb177) (o:=.cells #[.int .i64 ((rd_T27 l0_3 x18_2).f0),.slice A176_1 ((rd_T27 l0_3 x18_2).f1).length c176_1] 27 (0,0)) (by (with_reducible repeat (first|refine blk_drewN ?_ _|refine blk_drew ?_|refine blk_alloc ?_ _));exact BK177.out) hg (Kd.R_ne HO_5.out BK177.out (by decide)));have n3_:=Aside0.mk ((by rw [hw];exact below_set (HB.out) GB30.out : Below w.heap.size w w39));clear HO_5;clear BK172;clear BK177;clear HB;have HO_5:=n0_;have BK172:=n1_;have BK177:=n2_;have HB:=n3_;clear n0_ n1_ n2_ n3_;clear hg hw hp_))
              go_roundg k2
              case measure=>have:=HK1.out;have:=HK2.out;omega
              case rel=>exact ⟨(y184),(((Go.bits .andNot .u32 t178 (rd x5_2 ((rd_T27 l0_3 x18_2).f0))) != 0)),(wrap64 (x18_2 + 1)),(by first|rfl|(simp;done)|(simp [*];done)),(by first|rfl|(simp;done)|(simp [*];done)),H',⟨by have:=HK1.out;have:=HK2.out;omega⟩,⟨by (with_reducible repeat (first|apply Kd.R_alloc|apply Kd.R_drewN|apply Kd.R_drew));exact HO_5.out⟩,⟨by (with_reducible repeat (first|refine blk_drewN ?_ _|refine blk_drew ?_|refine blk_alloc ?_ _));exact BK172.out⟩,⟨by repeat (first|(with_reducible first|exact HB.out|apply below_alloc|apply pw_below_drewN|apply below_drew1|refine below_set ?_ GE172.out|refine below_set ?_ GE177.out)|exact HB.out)⟩⟩
             ·rw [if_neg c29] at H
              exact absurd H (by simp)
            ·rw [if_neg c28] at H
             exact absurd H (by simp)
          ·rw [if_neg c13] at H
           exact absurd H (by simp)
         ·rw [if_neg c12] at H
          exact absurd H (by simp)
        ·rw [if_neg c11] at H
         have c11b0 : decide (x18_2 < (l0_3.length : Int)) = false:=decide_eq_false c11
         clear c11
         have H':=Aside0.mk H
         clear H
         go_wp2
         go_roundg k2
         case measure=>have:=HK1.out;have:=HK2.out;omega
         case rel=>exact ⟨(x5_2),(x6_2),(by first|rfl|(simp;done)|(simp [*];done)),H',⟨by have:=HK1.out;have:=HK2.out;omega⟩,⟨by (with_reducible repeat (first|apply Kd.R_alloc|apply Kd.R_drewN|apply Kd.R_drew));exact HO_5.out⟩,⟨by (with_reducible repeat (first|refine blk_drewN ?_ _|refine blk_drew ?_|refine blk_alloc ?_ _));exact BK172.out⟩,⟨by repeat (first|(with_reducible first|exact HB.out|apply below_alloc|apply pw_below_drewN|apply below_drew1|refine below_set ?_ GE172.out)|exact HB.out)⟩⟩
     ·replace c9:=Bool.eq_false_iff.mpr c9
      subst c9
      have H1 : (some x5_1) = some r:=by rw [if_neg (show ¬ (false = true) by decide)] at H;exact H
      clear H
      have H:=H1
      clear H1
      obtain rfl:=Option.some.inj H
      go_wp2
      go_ret
      exact ⟨_,by first|rfl|(simp [errW_none,errW_some] <;> rfl)|(simp [*,errW_none,errW_some] <;> rfl),by (with_reducible repeat (first|apply Kd.R_alloc|apply Kd.R_drewN|apply Kd.R_drew));exact HO_5.out,by repeat (first|(with_reducible first|exact HB.out|apply below_alloc|apply pw_below_drewN|apply below_drew1|refine below_set ?_ GE172.out)|exact HB.out)⟩
  ·rw [if_neg c4] at H
   exact absurd H (by simp)
 ·rw [if_neg c3] at H
  exact absurd H (by simp)
end Go.Proofs.Ytnkackiocigdoaa.GE
