-- Written by ext.py, a program of this session.
import Derived.Test.YtllnipefceonmaaGA0
namespace Go.Proofs.Ytllnipefceonmaa.GA
open Go.RowKit Go.Proofs.YtllnipefceonmaaW.PrintWords Go.Proofs.YtllnipefceonmaaW.PrintLast Go.Proofs.YtllnipefceonmaaW.PrintMore
attribute [local go_sem] max2_int min2_int max_two min_two max_three min_three max_four min_four cellIs_set   -- for this text's walks alone
set_option linter.unusedVariables false
set_option linter.unusedSimpArgs false
/-! ### coppicerkeep_whole: function 7 -/
mutual
def coppicerkeep_whole.l0 : Nat → List (List Int) → Int → Int → Int → Int → List (S45) → Int → Int → Option (Int × Int × (List (S45)) × Int × Int)
 | 0,_,_,_,_,_,_,_,_=>none
 | k + 1,x20,x21,x22,x205000,x205001,x205002,x205003,x205004=>if x22 < x21 then (if 0 ≤ x22 then (if x22 < (x20.length : Int) then (coppicerkeep_whole.l1 k x22 x20 x21 x22 (rd_L1 x20 x22) ((rd_L1 x20 x22).length : Int) 0 x205000 x205001 x205002 x205003 x205004) else (none)) else (none)) else (some (x205000,x205001,x205002,x205003,x205004))
def coppicerkeep_whole.l1 : Nat → Int → List (List Int) → Int → Int → List Int → Int → Int → Int → Int → List (S45) → Int → Int → Option (Int × Int × (List (S45)) × Int × Int)
 | 0,_,_,_,_,_,_,_,_,_,_,_,_=>none
 | k + 1,x4,x20,x21,x22,x27,x28,x29,x205000,x205001,x205002,x205003,x205004=>if x29 < x28 then (if 0 ≤ x29 then (if x29 < (x27.length : Int) then (if x205002.length < 5864062014805 then (coppicerkeep_whole.l1 k x4 x20 x21 x22 x27 x28 (wrap64 (x29 + 1)) x205000 x205001 (x205002 ++ [(⟨x4,x29,rd x27 x29⟩ : S45)]) x205003 x205004) else (none)) else (none)) else (none)) else (coppicerkeep_whole.l0 k x20 x21 (wrap64 (x22 + 1)) x205000 x205001 x205002 x205003 x205004)
end
def coppicerkeep_whole.f (k : Nat) (a0_0 : Int) (a0_1 : Int) (l0_2 : List (List Int)) (a0_3 : Int) (a0_4 : Int) : Option (Int × Int × (List (S45)) × Int × Int):=if 0 ≤ (IntKind.u64.wrap (a0_3)) then (coppicerkeep_whole.l0 k l0_2 (l0_2.length : Int) 0 a0_0 a0_1 ([] : List (S45)) (shl .u32 1 (IntKind.u64.wrap (a0_3))) a0_4) else (none)
theorem coppicerkeep_whole.mono_l : ∀ k,(∀ y0 y1 y2 y3 y4 y5 y6 y7,LeO (coppicerkeep_whole.l0 k y0 y1 y2 y3 y4 y5 y6 y7) (coppicerkeep_whole.l0 (k + 1) y0 y1 y2 y3 y4 y5 y6 y7)) ∧ (∀ y0 y1 y2 y3 y4 y5 y6 y7 y8 y9 y10 y11,LeO (coppicerkeep_whole.l1 k y0 y1 y2 y3 y4 y5 y6 y7 y8 y9 y10 y11) (coppicerkeep_whole.l1 (k + 1) y0 y1 y2 y3 y4 y5 y6 y7 y8 y9 y10 y11))
 | 0=>⟨fun _ _ _ _ _ _ _ _ r h=>by simp [coppicerkeep_whole.l0] at h,fun _ _ _ _ _ _ _ _ _ _ _ _ r h=>by simp [coppicerkeep_whole.l1] at h⟩
 | k + 1=>by
  obtain ⟨ih0,ih1⟩:=coppicerkeep_whole.mono_l k
  refine ⟨?_,?_⟩
  ·intro y0 y1 y2 y3 y4 y5 y6 y7
   unfold coppicerkeep_whole.l0
   repeat' first
   | (with_reducible exact ih0 _ _ _ _ _ _ _ _)
   | (with_reducible exact ih1 _ _ _ _ _ _ _ _ _ _ _ _)
   | (with_reducible exact LeO.refl _)
   | (with_reducible exact LeO.none _)
   | (with_reducible refine LeO.ite ?_ ?_)
   | (with_reducible refine LeO.bind ?_ (fun _=>?_))
   | exact ih0 _ _ _ _ _ _ _ _
   | exact ih1 _ _ _ _ _ _ _ _ _ _ _ _
   | exact LeO.none _
   | refine LeO.ite ?_ ?_
   | refine LeO.bind ?_ (fun _=>?_)
  ·intro y0 y1 y2 y3 y4 y5 y6 y7 y8 y9 y10 y11
   unfold coppicerkeep_whole.l1
   repeat' first
   | (with_reducible exact ih0 _ _ _ _ _ _ _ _)
   | (with_reducible exact ih1 _ _ _ _ _ _ _ _ _ _ _ _)
   | (with_reducible exact LeO.refl _)
   | (with_reducible exact LeO.none _)
   | (with_reducible refine LeO.ite ?_ ?_)
   | (with_reducible refine LeO.bind ?_ (fun _=>?_))
   | exact ih0 _ _ _ _ _ _ _ _
   | exact ih1 _ _ _ _ _ _ _ _ _ _ _ _
   | exact LeO.none _
   | refine LeO.ite ?_ ?_
   | refine LeO.bind ?_ (fun _=>?_)
theorem coppicerkeep_whole.mono : ∀ a0 a1 a2 a3 a4 k,LeO (coppicerkeep_whole.f k a0 a1 a2 a3 a4) (coppicerkeep_whole.f (k + 1) a0 a1 a2 a3 a4):=by
 intro a0 a1 a2 a3 a4 k
 obtain ⟨ih0,ih1⟩:=coppicerkeep_whole.mono_l k
 unfold coppicerkeep_whole.f
 repeat' first
   | (with_reducible exact ih0 _ _ _ _ _ _ _ _)
   | (with_reducible exact ih1 _ _ _ _ _ _ _ _ _ _ _ _)
   | (with_reducible exact LeO.refl _)
   | (with_reducible exact LeO.none _)
   | (with_reducible refine LeO.ite ?_ ?_)
   | (with_reducible refine LeO.bind ?_ (fun _=>?_))
   | exact ih0 _ _ _ _ _ _ _ _
   | exact ih1 _ _ _ _ _ _ _ _ _ _ _ _
   | exact LeO.none _
   | refine LeO.ite ?_ ?_
   | refine LeO.bind ?_ (fun _=>?_)
set_option maxHeartbeats 8000000 in
set_option maxRecDepth 100000 in
theorem coppicerkeep_whole.calls (k : Nat) (a0_0 : Int) (a0_1 : Int) (A0_2 : Option Addr) (c0_2 : Nat) (l0_2 : List (List Int)) (a0_3 : Int) (a0_4 : Int) (r1 : Int) (r2 : Int) (r3 : List (S45)) (r4 : Int) (r5 : Int) (w : World) (hr0_2 : Kd.C (Kd.slice 3 (Kd.int .i64)) w A0_2 l0_2.length l0_2) (hc0_2 : l0_2.length ≤ c0_2) (h : coppicerkeep_whole.f k a0_0 a0_1 l0_2 a0_3 a0_4 = some (r1,r2,r3,r4,r5)) :
  Calls Try.prog 7 #[.agg #[.int .i64 a0_0,.int .i64 a0_1,.slice A0_2 l0_2.length c0_2,.int .i64 a0_3,.int .u32 a0_4]] w fun e w'=>∃ v2_ : Value,e = .returned (.agg #[.int .i64 r1,.int .i64 r2,v2_,.int .u32 r4,.int .u32 r5]) ∧ Kd.R k45 45 w' w.heap.size (fun _=>True) v2_ r3 ∧ Below w.heap.size w w':=by
 have hu25:=Try.underlying25
 have hu32:=Try.underlying32
 have hu45:=Try.underlying45
 have HR0_2:=Aside0.mk hr0_2
 have HC0_2:=Aside0.mk hc0_2
 clear hr0_2 hc0_2
 have HB:=Aside0.mk (Below.refl w.heap.size w)
 have H : (if 0 ≤ (IntKind.u64.wrap (a0_3)) then (coppicerkeep_whole.l0 k l0_2 (l0_2.length : Int) 0 a0_0 a0_1 ([] : List (S45)) (shl .u32 1 (IntKind.u64.wrap (a0_3))) a0_4) else (none)) = some (r1,r2,r3,r4,r5):=h
 clear h
 obtain ⟨ji2,hji2⟩ : ∃ j_ : Int,(IntKind.u64.wrap (a0_3)) = j_:=⟨_,rfl⟩
 replace H : (if 0 ≤ (ji2) then (coppicerkeep_whole.l0 k l0_2 (l0_2.length : Int) 0 a0_0 a0_1 ([] : List (S45)) (shl .u32 1 (ji2)) a0_4) else (none)) = some (r1,r2,r3,r4,r5):=by first|(rw [hji2] at H;exact H)|(simp only [hji2] at H ⊢;exact H)
 by_cases c3 : 0 ≤ (ji2)
 ·rw [if_pos c3] at H
  have c3b0:=eq_true c3
  have c3b1 : decide (0 ≤ (ji2)) = true:=decide_eq_true c3
  clear c3
  obtain ⟨ji4,hji4⟩ : ∃ j_ : Int,(shl .u32 1 (ji2)) = j_:=⟨_,rfl⟩
  replace H : (coppicerkeep_whole.l0 k l0_2 (l0_2.length : Int) 0 a0_0 a0_1 ([] : List (S45)) ji4 a0_4) = some (r1,r2,r3,r4,r5):=by first|(rw [hji4] at H;exact H)|(simp only [hji4] at H ⊢;exact H)
  have hji4_ : (IntKind.u32.wrap (1 * 2 ^ min (ji2).toNat 32)) = ji4:=hji4
  have hji4z : (ji2) ≤ 32 → (IntKind.u32.wrap (1 * 2 ^ (ji2).toNat)) = ji4:=shl_small hji4
  have hji4u : (IntKind.u32.wrap (2 ^ min (ji2).toNat 32)) = ji4:=by have h_:=hji4_;rw [Int.one_mul] at h_;exact h_
  have hji4v : (ji2) ≤ 32 → (IntKind.u32.wrap (2 ^ (ji2).toNat)) = ji4:=fun hle_=>by have h_:=hji4z hle_;rw [Int.one_mul] at h_;exact h_
  have H':=Aside0.mk H
  clear H
  go_enter Try.func7,Try.ntmps7
  go_wp2_with (first|((with_reducible refine gate_dst (N:=1) rfl ?_);refine box_event ?hg (N:=1) ?hd (cs:=#[.int .i64 a0_0,.int .i64 a0_1,.slice A0_2 l0_2.length c0_2,.int .i64 a0_3,.int .u32 a0_4]) (t:=25) ?hr ?_;(case hd=>rfl);(case hg=>rfl);(case hr=>first|(go_simp;done)|(go_simp;rfl));intro gb202 hg w5 hbox hb;have n0_:=Aside0.mk (below_step (by repeat (first|(with_reducible first|exact HB.out|apply below_alloc|apply pw_below_drewN|apply below_drew1)|exact HB.out)) hb);have n1_:=Aside0.mk (hbox);have n2_:=Aside0.mk ((by rw [hg];exact (below_size (by repeat (first|(with_reducible first|exact HB.out|apply below_alloc|apply pw_below_drewN|apply below_drew1)|exact HB.out))) : w.heap.size ≤ gb202));have n3_:=Aside0.mk ((by rw [hg];exact (below_size (by repeat (first|(with_reducible first|exact HB.out|apply below_alloc|apply pw_below_drewN|apply below_drew1)|exact HB.out))) : w.heap.size ≤ gb202));clear HB;have HB:=n0_;have BK202:=n1_;have GW202:=n2_;have GE202:=n3_;clear n0_ n1_ n2_ n3_;clear hb hbox hg)|((with_reducible refine gate_dst (N:=2) rfl ?_);refine box_event ?hg (N:=2) ?hd (cs:=#[.int .i64 0,.int .i64 0,.slice none 0 0,.int .u32 0,.int .u32 0]) (t:=32) ?hr ?_;(case hd=>rfl);(case hg=>rfl);(case hr=>first|(go_simp;done)|(go_simp;rfl));intro gb203 hg w6 hbox hb;have n0_:=Aside0.mk (blk_below (g:=gb202) (o:=.cells #[.int .i64 a0_0,.int .i64 a0_1,.slice A0_2 l0_2.length c0_2,.int .i64 a0_3,.int .u32 a0_4] 25 (0,0)) (by (with_reducible repeat (first|refine blk_drewN ?_ _|refine blk_drew ?_|refine blk_alloc ?_ _));exact BK202.out) hb);have n1_:=Aside0.mk (below_step (by repeat (first|(with_reducible first|exact HB.out|apply below_alloc|apply pw_below_drewN|apply below_drew1|refine below_set ?_ GE202.out)|exact HB.out)) hb);have n2_:=Aside0.mk (hbox);have n3_:=Aside0.mk ((by rw [hg];exact (below_size (by repeat (first|(with_reducible first|exact HB.out|apply below_alloc|apply pw_below_drewN|apply below_drew1|refine below_set ?_ GE202.out)|exact HB.out))) : w.heap.size ≤ gb203));have n4_:=Aside0.mk ((by rw [hg];exact (below_size (by repeat (first|(with_reducible first|exact HB.out|apply below_alloc|apply pw_below_drewN|apply below_drew1|refine below_set ?_ GE202.out)|exact HB.out))) : w.heap.size ≤ gb203));have n5_:=Aside0.mk ((by rw [hg];exact Nat.ne_of_lt (blk_lt (g:=gb202) (o:=.cells #[.int .i64 a0_0,.int .i64 a0_1,.slice A0_2 l0_2.length c0_2,.int .i64 a0_3,.int .u32 a0_4] 25 (0,0)) (by (with_reducible repeat (first|refine blk_drewN ?_ _|refine blk_drew ?_|refine blk_alloc ?_ _));exact BK202.out)) : gb202 ≠ gb203));have n6_:=Aside0.mk ((by rw [hg];exact Nat.ne_of_gt (blk_lt (g:=gb202) (o:=.cells #[.int .i64 a0_0,.int .i64 a0_1,.slice A0_2 l0_2.length c0_2,.int .i64 a0_3,.int .u32 a0_4] 25 (0,0)) (by (with_reducible repeat (first|refine blk_drewN ?_ _|refine blk_drew ?_|refine blk_alloc ?_ _));exact BK202.out)) : gb203 ≠ gb202));clear BK202;clear HB;have BK202:=n0_;have HB:=n1_;have BK203:=n2_;have GW203:=n3_;have GE203:=n4_;have NB202_203:=n5_;have NB203_202:=n6_;clear n0_ n1_ n2_ n3_ n4_ n5_ n6_;clear hb hbox hg;have hnb7:=NB202_203.out;have hnc7:=NB203_202.out;have hcz8_0 : w6.cell? ⟨gb202,0,none⟩ = some (.int .i64 a0_0):=(blk_cell BK202.out 0).trans rfl;have hcz8_1 : w6.cell? ⟨gb202,1,none⟩ = some (.int .i64 a0_1):=(blk_cell BK202.out 1).trans rfl;have hcz8_2 : w6.cell? ⟨gb202,2,none⟩ = some (.slice A0_2 l0_2.length c0_2):=(blk_cell BK202.out 2).trans rfl;have hcz8_3 : w6.cell? ⟨gb202,3,none⟩ = some (.int .i64 a0_3):=(blk_cell BK202.out 3).trans rfl;have hcz8_4 : w6.cell? ⟨gb202,4,none⟩ = some (.int .u32 a0_4):=(blk_cell BK202.out 4).trans rfl;have hfz8_0:=blk_frozen BK202.out 0;have hfz8_1:=blk_frozen BK202.out 1;have hfz8_2:=blk_frozen BK202.out 2;have hfz8_3:=blk_frozen BK202.out 3;have hfz8_4:=blk_frozen BK202.out 4)|((with_reducible refine gate_dst (N:=3) rfl ?_);refine box_event ?hg (N:=3) ?hd (cs:=#[.int .i64 0,.int .i64 0,.slice none 0 0,.int .u32 0,.int .u32 0]) (t:=32) ?hr ?_;(case hd=>rfl);(case hg=>rfl);(case hr=>first|(go_simp;done)|(go_simp;rfl));intro gb204 hg w9 hbox hb;have n0_:=Aside0.mk (blk_below (g:=gb202) (o:=.cells #[.int .i64 a0_0,.int .i64 a0_1,.slice A0_2 l0_2.length c0_2,.int .i64 a0_3,.int .u32 a0_4] 25 (0,0)) (by (with_reducible repeat (first|refine blk_drewN ?_ _|refine blk_drew ?_|refine blk_alloc ?_ _));exact BK202.out) hb);have n1_:=Aside0.mk (blk_below (g:=gb203) (o:=.cells #[.int .i64 0,.int .i64 0,.slice none 0 0,.int .u32 0,.int .u32 0] 32 (0,0)) (by (with_reducible repeat (first|refine blk_drewN ?_ _|refine blk_drew ?_|refine blk_alloc ?_ _));exact BK203.out) hb);have n2_:=Aside0.mk (below_step (by repeat (first|(with_reducible first|exact HB.out|apply below_alloc|apply pw_below_drewN|apply below_drew1|refine below_set ?_ GE202.out|refine below_set ?_ GE203.out)|exact HB.out)) hb);have n3_:=Aside0.mk (hbox);have n4_:=Aside0.mk ((by rw [hg];exact (below_size (by repeat (first|(with_reducible first|exact HB.out|apply below_alloc|apply pw_below_drewN|apply below_drew1|refine below_set ?_ GE202.out|refine below_set ?_ GE203.out)|exact HB.out))) : w.heap.size ≤ gb204));have n5_:=Aside0.mk ((by rw [hg];exact (below_size (by repeat (first|(with_reducible first|exact HB.out|apply below_alloc|apply pw_below_drewN|apply below_drew1|refine below_set ?_ GE202.out|refine below_set ?_ GE203.out)|exact HB.out))) : w.heap.size ≤ gb204));have n6_:=Aside0.mk ((by rw [hg];exact Nat.ne_of_lt (blk_lt (g:=gb202) (o:=.cells #[.int .i64 a0_0,.int .i64 a0_1,.slice A0_2 l0_2.length c0_2,.int .i64 a0_3,.int .u32 a0_4] 25 (0,0)) (by (with_reducible repeat (first|refine blk_drewN ?_ _|refine blk_drew ?_|refine blk_alloc ?_ _));exact BK202.out)) : gb202 ≠ gb204));have n7_:=Aside0.mk ((by rw [hg];exact Nat.ne_of_gt (blk_lt (g:=gb202) (o:=.cells #[.int .i64 a0_0,.int .i64 a0_1,.slice A0_2 l0_2.length c0_2,.int .i64 a0_3,.int .u32 a0_4] 25 (0,0)) (by (with_reducible repeat (first|refine blk_drewN ?_ _|refine blk_drew ?_|refine blk_alloc ?_ _));exact BK202.out)) : gb204 ≠ gb202));have n8_:=Aside0.mk ((by rw [hg];exact Nat.ne_of_lt (blk_lt (g:=gb203) (o:=.cells #[.int .i64 0,.int .i64 0,.slice none 0 0,.int .u32 0,.int .u32 0] 32 (0,0)) (by (with_reducible repeat (first|refine blk_drewN ?_ _|refine blk_drew ?_|refine blk_alloc ?_ _));exact BK203.out)) : gb203 ≠ gb204));have n9_:=Aside0.mk ((by rw [hg];exact Nat.ne_of_gt (blk_lt (g:=gb203) (o:=.cells #[.int .i64 0,.int .i64 0,.slice none 0 0,.int .u32 0,.int .u32 0] 32 (0,0)) (by (with_reducible repeat (first|refine blk_drewN ?_ _|refine blk_drew ?_|refine blk_alloc ?_ _));exact BK203.out)) : gb204 ≠ gb203));clear BK202;clear BK203;clear HB;have BK202:=n0_;have BK203:=n1_;have HB:=n2_;have BK204:=n3_;have GW204:=n4_;have GE204:=n5_;have NB202_204:=n6_;have NB204_202:=n7_;have NB203_204:=n8_;have NB204_203:=n9_;clear n0_ n1_ n2_ n3_ n4_ n5_ n6_ n7_ n8_ n9_;clear hb hbox hg;have hnb10:=NB204_202.out;have hnc10:=NB202_204.out;have hnb11:=NB204_203.out;have hnc11:=NB203_204.out;have hcz12_0 : w9.cell? ⟨gb204,0,none⟩ = some (.int .i64 0):=(blk_cell BK204.out 0).trans rfl;have hcz12_1 : w9.cell? ⟨gb204,1,none⟩ = some (.int .i64 0):=(blk_cell BK204.out 1).trans rfl;have hcz12_2 : w9.cell? ⟨gb204,2,none⟩ = some (.slice none 0 0):=(blk_cell BK204.out 2).trans rfl;have hcz12_3 : w9.cell? ⟨gb204,3,none⟩ = some (.int .u32 0):=(blk_cell BK204.out 3).trans rfl;have hcz12_4 : w9.cell? ⟨gb204,4,none⟩ = some (.int .u32 0):=(blk_cell BK204.out 4).trans rfl;have hfz12_0:=blk_frozen BK204.out 0;have hfz12_1:=blk_frozen BK204.out 1;have hfz12_2:=blk_frozen BK204.out 2;have hfz12_3:=blk_frozen BK204.out 3;have hfz12_4:=blk_frozen BK204.out 4;have hcz13_0 : w9.cell? ⟨gb202,0,none⟩ = some (.int .i64 a0_0):=(blk_cell BK202.out 0).trans rfl;have hcz13_1 : w9.cell? ⟨gb202,1,none⟩ = some (.int .i64 a0_1):=(blk_cell BK202.out 1).trans rfl;have hcz13_2 : w9.cell? ⟨gb202,2,none⟩ = some (.slice A0_2 l0_2.length c0_2):=(blk_cell BK202.out 2).trans rfl;have hcz13_3 : w9.cell? ⟨gb202,3,none⟩ = some (.int .i64 a0_3):=(blk_cell BK202.out 3).trans rfl;have hcz13_4 : w9.cell? ⟨gb202,4,none⟩ = some (.int .u32 a0_4):=(blk_cell BK202.out 4).trans rfl;have hfz13_0:=blk_frozen BK202.out 0;have hfz13_1:=blk_frozen BK202.out 1;have hfz13_2:=blk_frozen BK202.out 2;have hfz13_3:=blk_frozen BK202.out 3;have hfz13_4:=blk_frozen BK202.out 4))
  go_loopg [22] k (fun kq v22 w'=>∃ (x22_1 : Int) (x205002_1 : List (S45)) (u205002 : Value),v22 = .int .i64 x22_1 ∧ Aside0 (coppicerkeep_whole.l0 kq l0_2 (l0_2.length : Int) x22_1 a0_0 a0_1 x205002_1 ji4 a0_4 = some (r1,r2,r3,r4,r5)) ∧ Aside0 (kq ≤ k) ∧ Aside0 (Kd.R k45 45 w' w.heap.size (fun _=>True) u205002 x205002_1) ∧ Aside0 (w'.heap[gb202]? = some (.cells #[.int .i64 a0_0,.int .i64 a0_1,(.slice A0_2 l0_2.length c0_2),.int .i64 a0_3,.int .u32 a0_4] 25 (0,0))) ∧ Aside0 (w'.heap[gb203]? = some (.cells #[.int .i64 0,.int .i64 0,(.slice none 0 0),.int .u32 0,.int .u32 0] 32 (0,0))) ∧ Aside0 (w'.heap[gb204]? = some (.cells #[.int .i64 a0_0,.int .i64 a0_1,u205002,.int .u32 ji4,.int .u32 a0_4] 32 (0,0))) ∧ Aside0 (Below w.heap.size w w'))
  case atStart=>exact ⟨(0),(([] : List (S45))),(.slice none 0 0),(by first|rfl|(simp;done)|(simp [*];done)),H',⟨Nat.le_refl _⟩,⟨by first|exact Kd.R_nil _ _ _ _ _|exact Kd.N_nil _ _ _ _ _|exact Kd.V_nil _ _ _ _ _|exact Kd.Q_nil _ _ _ _ _|exact Kd.S_nil _ _ _ _ _⟩,⟨by (with_reducible repeat (first|refine blk_drewN ?_ _|refine blk_drew ?_|refine blk_alloc ?_ _));refine blk_far ?_ NB202_204.out _;(with_reducible repeat (first|refine blk_drewN ?_ _|refine blk_drew ?_|refine blk_alloc ?_ _));refine blk_far ?_ NB202_204.out _;(with_reducible repeat (first|refine blk_drewN ?_ _|refine blk_drew ?_|refine blk_alloc ?_ _));refine blk_far ?_ NB202_204.out _;(with_reducible repeat (first|refine blk_drewN ?_ _|refine blk_drew ?_|refine blk_alloc ?_ _));refine blk_far ?_ NB202_204.out _;(with_reducible repeat (first|refine blk_drewN ?_ _|refine blk_drew ?_|refine blk_alloc ?_ _));refine blk_far ?_ NB202_204.out _;(with_reducible repeat (first|refine blk_drewN ?_ _|refine blk_drew ?_|refine blk_alloc ?_ _));exact BK202.out⟩,⟨by (with_reducible repeat (first|refine blk_drewN ?_ _|refine blk_drew ?_|refine blk_alloc ?_ _));refine blk_far ?_ NB203_204.out _;(with_reducible repeat (first|refine blk_drewN ?_ _|refine blk_drew ?_|refine blk_alloc ?_ _));refine blk_far ?_ NB203_204.out _;(with_reducible repeat (first|refine blk_drewN ?_ _|refine blk_drew ?_|refine blk_alloc ?_ _));refine blk_far ?_ NB203_204.out _;(with_reducible repeat (first|refine blk_drewN ?_ _|refine blk_drew ?_|refine blk_alloc ?_ _));refine blk_far ?_ NB203_204.out _;(with_reducible repeat (first|refine blk_drewN ?_ _|refine blk_drew ?_|refine blk_alloc ?_ _));refine blk_far ?_ NB203_204.out _;(with_reducible repeat (first|refine blk_drewN ?_ _|refine blk_drew ?_|refine blk_alloc ?_ _));exact BK203.out⟩,⟨by (with_reducible repeat (first|refine blk_drewN ?_ _|refine blk_drew ?_|refine blk_alloc ?_ _));refine blk_put (cs:=#[.int .i64 a0_0,.int .i64 a0_1,.slice none 0 0,.int .u32 ji4,.int .u32 0]) ?_ 4 _ rfl;(with_reducible repeat (first|refine blk_drewN ?_ _|refine blk_drew ?_|refine blk_alloc ?_ _));refine blk_put (cs:=#[.int .i64 a0_0,.int .i64 a0_1,.slice none 0 0,.int .u32 0,.int .u32 0]) ?_ 3 _ rfl;(with_reducible repeat (first|refine blk_drewN ?_ _|refine blk_drew ?_|refine blk_alloc ?_ _));refine blk_put (cs:=#[.int .i64 a0_0,.int .i64 a0_1,.slice none 0 0,.int .u32 0,.int .u32 0]) ?_ 2 _ rfl;(with_reducible repeat (first|refine blk_drewN ?_ _|refine blk_drew ?_|refine blk_alloc ?_ _));refine blk_put (cs:=#[.int .i64 a0_0,.int .i64 0,.slice none 0 0,.int .u32 0,.int .u32 0]) ?_ 1 _ rfl;(with_reducible repeat (first|refine blk_drewN ?_ _|refine blk_drew ?_|refine blk_alloc ?_ _));refine blk_put (cs:=#[.int .i64 0,.int .i64 0,.slice none 0 0,.int .u32 0,.int .u32 0]) ?_ 0 _ rfl;(with_reducible repeat (first|refine blk_drewN ?_ _|refine blk_drew ?_|refine blk_alloc ?_ _));exact BK204.out⟩,⟨by repeat (first|(with_reducible first|exact HB.out|apply below_alloc|apply pw_below_drewN|apply below_drew1|refine below_set ?_ GE202.out|refine below_set ?_ GE203.out|refine below_set ?_ GE204.out)|exact HB.out)⟩⟩
  case round =>
   clear H'
   try clear c1
   try clear p2
   try clear c3
   try clear c3b0
   try clear c3b1
   try clear c7
   try clear c10
   try clear c11
   try clear hcz12_0
   try clear hcz12_1
   try clear hcz12_2
   try clear hcz12_3
   try clear hcz12_4
   try clear hcz13_0
   try clear hcz13_1
   try clear hcz13_2
   try clear hcz13_3
   try clear hcz13_4
   try clear hcz8_0
   try clear hcz8_1
   try clear hcz8_2
   try clear hcz8_3
   try clear hcz8_4
   try clear hfz12_0
   try clear hfz12_1
   try clear hfz12_2
   try clear hfz12_3
   try clear hfz12_4
   try clear hfz13_0
   try clear hfz13_1
   try clear hfz13_2
   try clear hfz13_3
   try clear hfz13_4
   try clear hfz8_0
   try clear hfz8_1
   try clear hfz8_2
   try clear hfz8_3
   try clear hfz8_4
   obtain ⟨x22_1,x205002_1,u205002,rfl,HA,HK1,HO_205002,BK202,BK203,BK204,HB⟩:=hrel
   cases gk with
   | zero=>exact absurd HA.out (by simp [coppicerkeep_whole.l0])
   | succ k1 =>
    have H:=HA.out
    clear HA
    simp only [coppicerkeep_whole.l0] at H
    by_cases c14 : x22_1 < (l0_2.length : Int)
    ·rw [if_pos c14] at H
     have c14b0 : decide (x22_1 < (l0_2.length : Int)) = true:=decide_eq_true c14
     clear c14
     by_cases c15 : 0 ≤ x22_1
     ·rw [if_pos c15] at H
      have c15b0 : decide (0 ≤ x22_1) = true:=decide_eq_true c15
      clear c15
      by_cases c16 : x22_1 < (l0_2.length : Int)
      ·rw [if_pos c16] at H
       have c16b0 : decide (x22_1 < (l0_2.length : Int)) = true:=decide_eq_true c16
       clear c16
       have H':=Aside0.mk H
       clear H
       have p205 : 0 ≤ (x22_1 : Int):=of_decide_eq_true (by first|(with_reducible assumption)|assumption)
       have q205 : x22_1 < (l0_2.length : Int):=of_decide_eq_true (by first|(with_reducible assumption)|assumption)
       obtain ⟨ad205,A205_0,c205_0,e205,hx205_0,hl205_0,hi205_0⟩:=at_L1 HR0_2.out x22_1 p205 q205
       cases e205
       replace hx205_0:=(HB.out.cell (World.block_lt_of_cell? w _ hx205_0)).trans hx205_0
       have HR205_0:=Aside0.mk hi205_0
       have HC205_0:=Aside0.mk hl205_0
       clear hi205_0 hl205_0
       replace p205:=eq_true p205
       replace q205:=eq_true q205
       go_wp2
       go_loopg [29] k1 (fun kq v29 w'=>∃ (x29_2 : Int) (x205002_2 : List (S45)) (u205002 : Value),v29 = .int .i64 x29_2 ∧ Aside0 (coppicerkeep_whole.l1 kq x22_1 l0_2 (l0_2.length : Int) x22_1 (rd_L1 l0_2 x22_1) ((rd_L1 l0_2 x22_1).length : Int) x29_2 a0_0 a0_1 x205002_2 ji4 a0_4 = some (r1,r2,r3,r4,r5)) ∧ Aside0 (kq ≤ k1) ∧ Aside0 (Kd.R k45 45 w' w.heap.size (fun _=>True) u205002 x205002_2) ∧ Aside0 (w'.heap[gb202]? = some (.cells #[.int .i64 a0_0,.int .i64 a0_1,(.slice (some ad205) l0_2.length c0_2),.int .i64 a0_3,.int .u32 a0_4] 25 (0,0))) ∧ Aside0 (w'.heap[gb203]? = some (.cells #[.int .i64 0,.int .i64 0,(.slice none 0 0),.int .u32 0,.int .u32 0] 32 (0,0))) ∧ Aside0 (w'.heap[gb204]? = some (.cells #[.int .i64 a0_0,.int .i64 a0_1,u205002,.int .u32 ji4,.int .u32 a0_4] 32 (0,0))) ∧ Aside0 (Below w.heap.size w w'))
       case atStart=>exact ⟨(0),(x205002_1),(u205002),(by first|rfl|(simp;done)|(simp [*];done)),H',⟨Nat.le_refl _⟩,⟨by (with_reducible repeat (first|apply Kd.R_alloc|apply Kd.R_drewN|apply Kd.R_drew));exact HO_205002.out⟩,⟨by (with_reducible repeat (first|refine blk_drewN ?_ _|refine blk_drew ?_|refine blk_alloc ?_ _));exact BK202.out⟩,⟨by (with_reducible repeat (first|refine blk_drewN ?_ _|refine blk_drew ?_|refine blk_alloc ?_ _));exact BK203.out⟩,⟨by (with_reducible repeat (first|refine blk_drewN ?_ _|refine blk_drew ?_|refine blk_alloc ?_ _));exact BK204.out⟩,⟨by repeat (first|(with_reducible first|exact HB.out|apply below_alloc|apply pw_below_drewN|apply below_drew1|refine below_set ?_ GE202.out|refine below_set ?_ GE203.out|refine below_set ?_ GE204.out)|exact HB.out)⟩⟩
       case round =>
        clear H'
        try clear c1
        try clear c2
        try clear p2
        try clear q2
        try clear hx2
        try clear c3
        try clear c3b0
        try clear c3b1
        try clear c7
        try clear c10
        try clear c11
        try clear c14
        try clear c14b0
        try clear c15
        try clear c15b0
        try clear c16
        try clear c16b0
        try clear hcz12_0
        try clear hcz12_1
        try clear hcz12_2
        try clear hcz12_3
        try clear hcz12_4
        try clear hcz13_0
        try clear hcz13_1
        try clear hcz13_2
        try clear hcz13_3
        try clear hcz13_4
        try clear hcz8_0
        try clear hcz8_1
        try clear hcz8_2
        try clear hcz8_3
        try clear hcz8_4
        try clear hfz12_0
        try clear hfz12_1
        try clear hfz12_2
        try clear hfz12_3
        try clear hfz12_4
        try clear hfz13_0
        try clear hfz13_1
        try clear hfz13_2
        try clear hfz13_3
        try clear hfz13_4
        try clear hfz8_0
        try clear hfz8_1
        try clear hfz8_2
        try clear hfz8_3
        try clear hfz8_4
        try clear hx205_0
        try clear p2
        try clear p205
        try clear q205
        obtain ⟨x29_2,x205002_2,u205002,rfl,HA,HK2,HO_205002,BK202,BK203,BK204,HB⟩:=hrel
        cases gk with
        | zero=>exact absurd HA.out (by simp [coppicerkeep_whole.l1])
        | succ k2 =>
         have H:=HA.out
         clear HA
         simp only [coppicerkeep_whole.l1] at H
         by_cases c17 : x29_2 < ((rd_L1 l0_2 x22_1).length : Int)
         ·rw [if_pos c17] at H
          have c17b0 : decide (x29_2 < ((rd_L1 l0_2 x22_1).length : Int)) = true:=decide_eq_true c17
          clear c17
          by_cases c18 : 0 ≤ x29_2
          ·rw [if_pos c18] at H
           have c18b0 : decide (0 ≤ x29_2) = true:=decide_eq_true c18
           clear c18
           by_cases c19 : x29_2 < ((rd_L1 l0_2 x22_1).length : Int)
           ·rw [if_pos c19] at H
            have c19b0 : decide (x29_2 < ((rd_L1 l0_2 x22_1).length : Int)) = true:=decide_eq_true c19
            clear c19
            by_cases c20 : x205002_2.length < 5864062014805
            ·rw [if_pos c20] at H
             have LMc20:=Aside0.mk c20
             clear c20
             obtain ⟨y207,hy207⟩ : ∃ y_ : List (S45),y_ = (x205002_2 ++ [(⟨x22_1,x29_2,rd (rd_L1 l0_2 x22_1) x29_2⟩ : S45)]):=⟨_,rfl⟩
             replace H : (coppicerkeep_whole.l1 k2 x22_1 l0_2 (l0_2.length : Int) x22_1 (rd_L1 l0_2 x22_1) ((rd_L1 l0_2 x22_1).length : Int) (wrap64 (x29_2 + 1)) a0_0 a0_1 y207 ji4 a0_4) = some (r1,r2,r3,r4,r5):=by first|(rw [hy207];with_reducible exact H)|(have H2_:=(Option.bind_some _ _).symm.trans H;rw [hy207];with_reducible exact H2_)|(have H2_:=(Option.bind_some _ _).symm.trans H;with_reducible exact H2_)|with_reducible exact H|(rw [hy207];exact H)|exact H
             have Ny207:=Aside0.mk hy207
             clear hy207
             have H':=Aside0.mk H
             clear H
             have p206 : 0 ≤ (x29_2 : Int):=of_decide_eq_true (by first|(with_reducible assumption)|assumption)
             have q206 : x29_2 < ((rd_L1 l0_2 x22_1).length : Int):=of_decide_eq_true (by first|(with_reducible assumption)|assumption)
             obtain ⟨ad206,e206,hx206_0⟩:=Kd.at_int HR205_0.out x29_2 p206 q206
             cases e206
             replace hx206_0:=(HB.out.cell (World.block_lt_of_cell? w _ hx206_0)).trans hx206_0
             replace p206:=eq_true p206
             replace q206:=eq_true q206
             have hnb21:=NB204_202.out
             have hnc21:=NB202_204.out
             have hnb22:=NB204_203.out
             have hnc22:=NB203_204.out
             have hcz23_0 : wr.cell? ⟨gb204,0,none⟩ = some (.int .i64 a0_0):=(blk_cell BK204.out 0).trans rfl
             have hcz23_1 : wr.cell? ⟨gb204,1,none⟩ = some (.int .i64 a0_1):=(blk_cell BK204.out 1).trans rfl
             have hcz23_2 : wr.cell? ⟨gb204,2,none⟩ = some (u205002):=(blk_cell BK204.out 2).trans rfl
             have hcz23_3 : wr.cell? ⟨gb204,3,none⟩ = some (.int .u32 ji4):=(blk_cell BK204.out 3).trans rfl
             have hcz23_4 : wr.cell? ⟨gb204,4,none⟩ = some (.int .u32 a0_4):=(blk_cell BK204.out 4).trans rfl
             have hfz23_0:=blk_frozen BK204.out 0
             have hfz23_1:=blk_frozen BK204.out 1
             have hfz23_2:=blk_frozen BK204.out 2
             have hfz23_3:=blk_frozen BK204.out 3
             have hfz23_4:=blk_frozen BK204.out 4
             go_wp2_with (first|((with_reducible refine gate_builtin (b:=.append) (xs:=#[.tmp 35,.tmp 40]) rfl ?_);at_builtin;refine Kd.R_append k45 (w0:=w) w.heap.size rfl (.tmp 35) (.tmp 40) 30 45 (.agg #[(.int .i64 0),(.int .i64 0),(.int .i64 0)]) 24 rfl Try.underlying30 info45 rfl (by decide) (by omega) u205002 x205002_2 (⟨x22_1,x29_2,rd (rd_L1 l0_2 x22_1) x29_2⟩ : S45) [.int .i64 x22_1,.int .i64 x29_2,.int .i64 (rd (rd_L1 l0_2 x22_1) x29_2)] (fun _=>True) (fun _=>False) rfl rfl ?aP (fun _ hk=>hk.elim) ?aF ?aO ?aB ?aS ?aL ?_;(case aP=>exact k45_mkM _ _ _ (⟨x22_1,x29_2,rd (rd_L1 l0_2 x22_1) x29_2⟩ : S45));(case aB=>exact (by repeat (first|(with_reducible first|exact HB.out|apply below_alloc|apply pw_below_drewN|apply below_drew1|refine below_set ?_ GE202.out|refine below_set ?_ GE203.out|refine below_set ?_ GE204.out)|exact HB.out)));(case aF=>exact (fun _ _=>trivial));(case aO=>exact (by (with_reducible repeat (first|apply Kd.R_alloc|apply Kd.R_drewN|apply Kd.R_drew));exact HO_205002.out));(case aS=>exact (below_size (by repeat (first|(with_reducible first|exact HB.out|apply below_alloc|apply pw_below_drewN|apply below_drew1|refine below_set ?_ GE202.out|refine below_set ?_ GE203.out|refine below_set ?_ GE204.out)|exact HB.out))));(case aL=>have:=LMc20.out;omega);intro v208 w24 ho hb hg hat;rw [← Ny207.out] at ho;have n0_:=Aside0.mk (blk_grown (g:=gb202) (o:=.cells #[.int .i64 a0_0,.int .i64 a0_1,.slice (some ad205) l0_2.length c0_2,.int .i64 a0_3,.int .u32 a0_4] 25 (0,0)) (by (with_reducible repeat (first|refine blk_drewN ?_ _|refine blk_drew ?_|refine blk_alloc ?_ _));exact BK202.out) hg (Kd.R_ne HO_205002.out BK202.out (by decide)));have n1_:=Aside0.mk (blk_grown (g:=gb203) (o:=.cells #[.int .i64 0,.int .i64 0,.slice none 0 0,.int .u32 0,.int .u32 0] 32 (0,0)) (by (with_reducible repeat (first|refine blk_drewN ?_ _|refine blk_drew ?_|refine blk_alloc ?_ _));exact BK203.out) hg (Kd.R_ne HO_205002.out BK203.out (by decide)));have n2_:=Aside0.mk (blk_grown (g:=gb204) (o:=.cells #[.int .i64 a0_0,.int .i64 a0_1,u205002,.int .u32 ji4,.int .u32 a0_4] 32 (0,0)) (by (with_reducible repeat (first|refine blk_drewN ?_ _|refine blk_drew ?_|refine blk_alloc ?_ _));exact BK204.out) hg (Kd.R_ne HO_205002.out BK204.out (by decide)));have n3_:=Aside0.mk (hb);have n4_:=Aside0.mk (ho);clear BK202;clear BK203;clear BK204;clear HB;clear HO_205002;have BK202:=n0_;have BK203:=n1_;have BK204:=n2_;have HB:=n3_;have HO209:=n4_;clear n0_ n1_ n2_ n3_ n4_;clear ho hb hg hat;obtain ⟨Ao25,co25,eo25⟩:=Kd.R_slice HO209.out;subst eo25;have hcz26_0 : w24.cell? ⟨gb204,0,none⟩ = some (.int .i64 a0_0):=(blk_cell BK204.out 0).trans rfl;have hcz26_1 : w24.cell? ⟨gb204,1,none⟩ = some (.int .i64 a0_1):=(blk_cell BK204.out 1).trans rfl;have hcz26_2 : w24.cell? ⟨gb204,2,none⟩ = some (u205002):=(blk_cell BK204.out 2).trans rfl;have hcz26_3 : w24.cell? ⟨gb204,3,none⟩ = some (.int .u32 ji4):=(blk_cell BK204.out 3).trans rfl;have hcz26_4 : w24.cell? ⟨gb204,4,none⟩ = some (.int .u32 a0_4):=(blk_cell BK204.out 4).trans rfl;have hfz26_0:=blk_frozen BK204.out 0;have hfz26_1:=blk_frozen BK204.out 1;have hfz26_2:=blk_frozen BK204.out 2;have hfz26_3:=blk_frozen BK204.out 3;have hfz26_4:=blk_frozen BK204.out 4))
             first|go_roundg k2|((simp only [← hji2,← hji4]);go_roundg k2)
             case measure=>have:=HK1.out;have:=HK2.out;omega
             case rel=>exact ⟨(wrap64 (x29_2 + 1)),(y207),(.slice Ao25 y207.length co25),(by first|rfl|(simp;done)|(simp [*];done)),(by first|exact H'|((simp only [hji2,hji4]);exact H')|(have h_:=H'.out;simp only [← hji2,← hji4] at h_ ⊢;exact ⟨h_⟩)),⟨by have:=HK1.out;have:=HK2.out;omega⟩,⟨by (with_reducible repeat (first|apply Kd.R_alloc|apply Kd.R_drewN|apply Kd.R_drew));exact Kd.R_mono (Kd.R_far (p:=⟨gb204,2,none⟩) (Kd.R_types HO209.out BK204.out (by decide)) (fun _ hk=>hk.2) (.slice Ao25 y207.length co25)) (fun _ hk=>trivial)⟩,⟨by (with_reducible repeat (first|refine blk_drewN ?_ _|refine blk_drew ?_|refine blk_alloc ?_ _));refine blk_far ?_ NB202_204.out _;(with_reducible repeat (first|refine blk_drewN ?_ _|refine blk_drew ?_|refine blk_alloc ?_ _));exact BK202.out⟩,⟨by (with_reducible repeat (first|refine blk_drewN ?_ _|refine blk_drew ?_|refine blk_alloc ?_ _));refine blk_far ?_ NB203_204.out _;(with_reducible repeat (first|refine blk_drewN ?_ _|refine blk_drew ?_|refine blk_alloc ?_ _));exact BK203.out⟩,⟨by (with_reducible repeat (first|refine blk_drewN ?_ _|refine blk_drew ?_|refine blk_alloc ?_ _));refine blk_put (cs:=#[.int .i64 a0_0,.int .i64 a0_1,u205002,.int .u32 ji4,.int .u32 a0_4]) ?_ 2 _ rfl;(with_reducible repeat (first|refine blk_drewN ?_ _|refine blk_drew ?_|refine blk_alloc ?_ _));exact BK204.out⟩,⟨by repeat (first|(with_reducible first|exact HB.out|apply below_alloc|apply pw_below_drewN|apply below_drew1|refine below_set ?_ GE202.out|refine below_set ?_ GE203.out|refine below_set ?_ GE204.out)|exact HB.out)⟩⟩
            ·rw [if_neg c20] at H
             exact absurd H (by simp)
           ·rw [if_neg c19] at H
            exact absurd H (by simp)
          ·rw [if_neg c18] at H
           exact absurd H (by simp)
         ·rw [if_neg c17] at H
          have c17b0 : decide (x29_2 < ((rd_L1 l0_2 x22_1).length : Int)) = false:=decide_eq_false c17
          clear c17
          have H':=Aside0.mk H
          clear H
          go_wp2
          first|go_roundg k2|((simp only [← hji2,← hji4]);go_roundg k2)
          case measure=>have:=HK1.out;have:=HK2.out;omega
          case rel=>exact ⟨(wrap64 (x22_1 + 1)),(x205002_2),(u205002),(by first|rfl|(simp;done)|(simp [*];done)),(by first|exact H'|((simp only [hji2,hji4]);exact H')|(have h_:=H'.out;simp only [← hji2,← hji4] at h_ ⊢;exact ⟨h_⟩)),⟨by have:=HK1.out;have:=HK2.out;omega⟩,⟨by (with_reducible repeat (first|apply Kd.R_alloc|apply Kd.R_drewN|apply Kd.R_drew));exact HO_205002.out⟩,⟨by (with_reducible repeat (first|refine blk_drewN ?_ _|refine blk_drew ?_|refine blk_alloc ?_ _));exact BK202.out⟩,⟨by (with_reducible repeat (first|refine blk_drewN ?_ _|refine blk_drew ?_|refine blk_alloc ?_ _));exact BK203.out⟩,⟨by (with_reducible repeat (first|refine blk_drewN ?_ _|refine blk_drew ?_|refine blk_alloc ?_ _));exact BK204.out⟩,⟨by repeat (first|(with_reducible first|exact HB.out|apply below_alloc|apply pw_below_drewN|apply below_drew1|refine below_set ?_ GE202.out|refine below_set ?_ GE203.out|refine below_set ?_ GE204.out)|exact HB.out)⟩⟩
      ·rw [if_neg c16] at H
       exact absurd H (by simp)
     ·rw [if_neg c15] at H
      exact absurd H (by simp)
    ·rw [if_neg c14] at H
     have c14b0 : decide (x22_1 < (l0_2.length : Int)) = false:=decide_eq_false c14
     clear c14
     simp only [Option.some.injEq,Prod.mk.injEq] at H
     obtain ⟨rfl,rfl,rfl,rfl,rfl⟩:=H
     have hnb27:=NB204_202.out
     have hnc27:=NB202_204.out
     have hnb28:=NB204_203.out
     have hnc28:=NB203_204.out
     have hcz29_0 : wr.cell? ⟨gb204,0,none⟩ = some (.int .i64 a0_0):=(blk_cell BK204.out 0).trans rfl
     have hcz29_1 : wr.cell? ⟨gb204,1,none⟩ = some (.int .i64 a0_1):=(blk_cell BK204.out 1).trans rfl
     have hcz29_2 : wr.cell? ⟨gb204,2,none⟩ = some (u205002):=(blk_cell BK204.out 2).trans rfl
     have hcz29_3 : wr.cell? ⟨gb204,3,none⟩ = some (.int .u32 ji4):=(blk_cell BK204.out 3).trans rfl
     have hcz29_4 : wr.cell? ⟨gb204,4,none⟩ = some (.int .u32 a0_4):=(blk_cell BK204.out 4).trans rfl
     have hfz29_0:=blk_frozen BK204.out 0
     have hfz29_1:=blk_frozen BK204.out 1
     have hfz29_2:=blk_frozen BK204.out 2
     have hfz29_3:=blk_frozen BK204.out 3
     have hfz29_4:=blk_frozen BK204.out 4
     have hnb30:=NB203_202.out
     have hnc30:=NB202_203.out
     have hcz31_0 : wr.cell? ⟨gb203,0,none⟩ = some (.int .i64 0):=(blk_cell BK203.out 0).trans rfl
     have hcz31_1 : wr.cell? ⟨gb203,1,none⟩ = some (.int .i64 0):=(blk_cell BK203.out 1).trans rfl
     have hcz31_2 : wr.cell? ⟨gb203,2,none⟩ = some (.slice none 0 0):=(blk_cell BK203.out 2).trans rfl
     have hcz31_3 : wr.cell? ⟨gb203,3,none⟩ = some (.int .u32 0):=(blk_cell BK203.out 3).trans rfl
     have hcz31_4 : wr.cell? ⟨gb203,4,none⟩ = some (.int .u32 0):=(blk_cell BK203.out 4).trans rfl
     have hfz31_0:=blk_frozen BK203.out 0
     have hfz31_1:=blk_frozen BK203.out 1
     have hfz31_2:=blk_frozen BK203.out 2
     have hfz31_3:=blk_frozen BK203.out 3
     have hfz31_4:=blk_frozen BK203.out 4
     obtain ⟨Ao32,co32,eo32⟩:=Kd.R_slice HO_205002.out
     subst eo32
     go_wp2
     refine bodyPost_ret (results_cell_row rfl _ _ gb203 32 #[.int .i64 a0_0,.int .i64 a0_1,.slice Ao32 x205002_1.length co32,.int .u32 ji4,.int .u32 a0_4] (0,0) _ rfl (by (with_reducible repeat (first|refine blk_drewN ?_ _|refine blk_drew ?_|refine blk_alloc ?_ _));refine blk_put (cs:=#[.int .i64 a0_0,.int .i64 a0_1,.slice Ao32 x205002_1.length co32,.int .u32 ji4,.int .u32 0]) ?_ 4 _ rfl;(with_reducible repeat (first|refine blk_drewN ?_ _|refine blk_drew ?_|refine blk_alloc ?_ _));refine blk_put (cs:=#[.int .i64 a0_0,.int .i64 a0_1,.slice Ao32 x205002_1.length co32,.int .u32 0,.int .u32 0]) ?_ 3 _ rfl;(with_reducible repeat (first|refine blk_drewN ?_ _|refine blk_drew ?_|refine blk_alloc ?_ _));refine blk_put (cs:=#[.int .i64 a0_0,.int .i64 a0_1,.slice none 0 0,.int .u32 0,.int .u32 0]) ?_ 2 _ rfl;(with_reducible repeat (first|refine blk_drewN ?_ _|refine blk_drew ?_|refine blk_alloc ?_ _));refine blk_put (cs:=#[.int .i64 a0_0,.int .i64 0,.slice none 0 0,.int .u32 0,.int .u32 0]) ?_ 1 _ rfl;(with_reducible repeat (first|refine blk_drewN ?_ _|refine blk_drew ?_|refine blk_alloc ?_ _));refine blk_put (cs:=#[.int .i64 0,.int .i64 0,.slice none 0 0,.int .u32 0,.int .u32 0]) ?_ 0 _ rfl;(with_reducible repeat (first|refine blk_drewN ?_ _|refine blk_drew ?_|refine blk_alloc ?_ _));exact BK203.out) Try.underlying32 rfl (by kernel_rfl)) rfl ?_
     exact ⟨_,by first|rfl|(simp [errW_none,errW_some] <;> rfl)|(simp only [← hji2,← hji4];first|rfl|(simp [errW_none,errW_some] <;> rfl))|(simp [*,errW_none,errW_some] <;> rfl),by (with_reducible repeat (first|apply Kd.R_alloc|apply Kd.R_drewN|apply Kd.R_drew));exact Kd.R_mono (Kd.R_far (p:=⟨gb203,4,none⟩) (Kd.R_far (p:=⟨gb203,3,none⟩) (Kd.R_far (p:=⟨gb203,2,none⟩) (Kd.R_far (p:=⟨gb203,1,none⟩) (Kd.R_far (p:=⟨gb203,0,none⟩) (Kd.R_types HO_205002.out BK203.out (by decide)) (fun _ hk=>hk.2) (.int .i64 a0_0)) (fun _ hk=>hk.2) (.int .i64 a0_1)) (fun _ hk=>hk.2) (.slice Ao32 x205002_1.length co32)) (fun _ hk=>hk.2) (.int .u32 ji4)) (fun _ hk=>hk.2) (.int .u32 a0_4)) (fun _ hk=>trivial),by repeat (first|(with_reducible first|exact HB.out|apply below_alloc|apply pw_below_drewN|apply below_drew1|refine below_set ?_ GE202.out|refine below_set ?_ GE203.out|refine below_set ?_ GE204.out)|exact HB.out)⟩
 ·rw [if_neg c3] at H
  exact absurd H (by simp)
end Go.Proofs.Ytllnipefceonmaa.GA
