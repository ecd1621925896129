-- Written by ext.py, a program of this session.
import Derived.Test.YthgiiikjcfhgjaaGV0
namespace Go.Proofs.Ythgiiikjcfhgjaa.GV
open Go.RowKit Go.Proofs.YthgiiikjcfhgjaaW.PrintWords Go.Proofs.YthgiiikjcfhgjaaW.PrintLast Go.Proofs.YthgiiikjcfhgjaaW.PrintMore
attribute [local go_sem] max2_int min2_int max_two min_two max_three min_three max_four min_four cellIs_set   -- for this text's walks alone
set_option linter.unusedVariables false
set_option linter.unusedSimpArgs false
/-! ### coppicerref_MachineCheck: function 35 -/
mutual
def coppicerref_MachineCheck.j0 : Nat → Bool → Int → Int → List (List Int) → Int → Int → Option (Int)
 | 0,_,_,_,_,_,_=>none
 | k + 1,x26,x212000,x212001,x212002,x212003,x212004=>if x26 = true then (some 1) else (if (x212002.length : Int) = x212000 then (coppicerref_MachineCheck.l0 k x212002 (x212002.length : Int) 0 x212000 x212001 x212002 x212003 x212004) else (some 3))
def coppicerref_MachineCheck.l0 : Nat → List (List Int) → Int → Int → Int → Int → List (List Int) → Int → Int → Option (Int)
 | 0,_,_,_,_,_,_,_,_=>none
 | k + 1,x34,x35,x36,x212000,x212001,x212002,x212003,x212004=>if x36 < x35 then (if 0 ≤ x36 then (if x36 < (x34.length : Int) then (if ((rd_L1 x34 x36).length : Int) = x212001 then (coppicerref_MachineCheck.l0 k x34 x35 (wrap64 (x36 + 1)) x212000 x212001 x212002 x212003 x212004) else (some 3)) else (none)) else (none)) else (coppicerref_MachineCheck.l1 k x212002 (x212002.length : Int) 0 x212000 x212001 x212002 x212003 x212004)
def coppicerref_MachineCheck.l1 : Nat → List (List Int) → Int → Int → Int → Int → List (List Int) → Int → Int → Option (Int)
 | 0,_,_,_,_,_,_,_,_=>none
 | k + 1,x47,x48,x49,x212000,x212001,x212002,x212003,x212004=>if x49 < x48 then (if 0 ≤ x49 then (if x49 < (x47.length : Int) then (coppicerref_MachineCheck.l2 k x47 x48 x49 (rd_L1 x47 x49) ((rd_L1 x47 x49).length : Int) 0 x212000 x212001 x212002 x212003 x212004) else (none)) else (none)) else (if x212003 < 0 then (coppicerref_MachineCheck.j4 k true x212000 x212001 x212002 x212003 x212004) else (coppicerref_MachineCheck.j4 k (decide (x212003 ≥ x212000)) x212000 x212001 x212002 x212003 x212004))
def coppicerref_MachineCheck.l2 : Nat → List (List Int) → Int → Int → List Int → Int → Int → Int → Int → List (List Int) → Int → Int → Option (Int)
 | 0,_,_,_,_,_,_,_,_,_,_,_=>none
 | k + 1,x47,x48,x49,x53,x54,x55,x212000,x212001,x212002,x212003,x212004=>if x55 < x54 then (if 0 ≤ x55 then (if x55 < (x53.length : Int) then (if (rd x53 x55) < 0 then (some 2) else (if (rd x53 x55) ≥ x212000 then (some 2) else (coppicerref_MachineCheck.l2 k x47 x48 x49 x53 x54 (wrap64 (x55 + 1)) x212000 x212001 x212002 x212003 x212004))) else (none)) else (none)) else (coppicerref_MachineCheck.l1 k x47 x48 (wrap64 (x49 + 1)) x212000 x212001 x212002 x212003 x212004)
def coppicerref_MachineCheck.j4 : Nat → Bool → Int → Int → List (List Int) → Int → Int → Option (Int)
 | 0,_,_,_,_,_,_=>none
 | k + 1,x78,x212000,x212001,x212002,x212003,x212004=>if x78 = true then (some 2) else (if 0 ≤ (IntKind.u64.wrap (x212000)) then (if x212004 ≥ (shl .u32 1 (IntKind.u64.wrap (x212000))) then (some 4) else (some 0)) else (none))
end
def coppicerref_MachineCheck.f (k : Nat) (a0_0 : Int) (a0_1 : Int) (l0_2 : List (List Int)) (a0_3 : Int) (a0_4 : Int) : Option (Int):=if a0_0 < 1 then (coppicerref_MachineCheck.j0 k true a0_0 a0_1 l0_2 a0_3 a0_4) else (if a0_0 > 7 then (coppicerref_MachineCheck.j0 k true a0_0 a0_1 l0_2 a0_3 a0_4) else (if a0_1 < 1 then (coppicerref_MachineCheck.j0 k true a0_0 a0_1 l0_2 a0_3 a0_4) else (coppicerref_MachineCheck.j0 k (decide (a0_1 > 3)) a0_0 a0_1 l0_2 a0_3 a0_4)))
theorem coppicerref_MachineCheck.mono_l : ∀ k,(∀ y0 y1 y2 y3 y4 y5,LeO (coppicerref_MachineCheck.j0 k y0 y1 y2 y3 y4 y5) (coppicerref_MachineCheck.j0 (k + 1) y0 y1 y2 y3 y4 y5)) ∧ (∀ y0 y1 y2 y3 y4 y5 y6 y7,LeO (coppicerref_MachineCheck.l0 k y0 y1 y2 y3 y4 y5 y6 y7) (coppicerref_MachineCheck.l0 (k + 1) y0 y1 y2 y3 y4 y5 y6 y7)) ∧ (∀ y0 y1 y2 y3 y4 y5 y6 y7,LeO (coppicerref_MachineCheck.l1 k y0 y1 y2 y3 y4 y5 y6 y7) (coppicerref_MachineCheck.l1 (k + 1) y0 y1 y2 y3 y4 y5 y6 y7)) ∧ (∀ y0 y1 y2 y3 y4 y5 y6 y7 y8 y9 y10,LeO (coppicerref_MachineCheck.l2 k y0 y1 y2 y3 y4 y5 y6 y7 y8 y9 y10) (coppicerref_MachineCheck.l2 (k + 1) y0 y1 y2 y3 y4 y5 y6 y7 y8 y9 y10)) ∧ (∀ y0 y1 y2 y3 y4 y5,LeO (coppicerref_MachineCheck.j4 k y0 y1 y2 y3 y4 y5) (coppicerref_MachineCheck.j4 (k + 1) y0 y1 y2 y3 y4 y5))
 | 0=>⟨fun _ _ _ _ _ _ r h=>by simp [coppicerref_MachineCheck.j0] at h,fun _ _ _ _ _ _ _ _ r h=>by simp [coppicerref_MachineCheck.l0] at h,fun _ _ _ _ _ _ _ _ r h=>by simp [coppicerref_MachineCheck.l1] at h,fun _ _ _ _ _ _ _ _ _ _ _ r h=>by simp [coppicerref_MachineCheck.l2] at h,fun _ _ _ _ _ _ r h=>by simp [coppicerref_MachineCheck.j4] at h⟩
 | k + 1=>by
  obtain ⟨ih0,ih1,ih2,ih3,ih4⟩:=coppicerref_MachineCheck.mono_l k
  refine ⟨?_,?_,?_,?_,?_⟩
  ·intro y0 y1 y2 y3 y4 y5
   unfold coppicerref_MachineCheck.j0
   repeat' first
   | (with_reducible exact ih0 _ _ _ _ _ _)
   | (with_reducible exact ih1 _ _ _ _ _ _ _ _)
   | (with_reducible exact ih2 _ _ _ _ _ _ _ _)
   | (with_reducible exact ih3 _ _ _ _ _ _ _ _ _ _ _)
   | (with_reducible exact ih4 _ _ _ _ _ _)
   | (with_reducible exact LeO.refl _)
   | (with_reducible exact LeO.none _)
   | (with_reducible refine LeO.ite ?_ ?_)
   | (with_reducible refine LeO.bind ?_ (fun _=>?_))
   | exact ih0 _ _ _ _ _ _
   | exact ih1 _ _ _ _ _ _ _ _
   | exact ih2 _ _ _ _ _ _ _ _
   | exact ih3 _ _ _ _ _ _ _ _ _ _ _
   | exact ih4 _ _ _ _ _ _
   | exact LeO.none _
   | refine LeO.ite ?_ ?_
   | refine LeO.bind ?_ (fun _=>?_)
  ·intro y0 y1 y2 y3 y4 y5 y6 y7
   unfold coppicerref_MachineCheck.l0
   repeat' first
   | (with_reducible exact ih0 _ _ _ _ _ _)
   | (with_reducible exact ih1 _ _ _ _ _ _ _ _)
   | (with_reducible exact ih2 _ _ _ _ _ _ _ _)
   | (with_reducible exact ih3 _ _ _ _ _ _ _ _ _ _ _)
   | (with_reducible exact ih4 _ _ _ _ _ _)
   | (with_reducible exact LeO.refl _)
   | (with_reducible exact LeO.none _)
   | (with_reducible refine LeO.ite ?_ ?_)
   | (with_reducible refine LeO.bind ?_ (fun _=>?_))
   | exact ih0 _ _ _ _ _ _
   | exact ih1 _ _ _ _ _ _ _ _
   | exact ih2 _ _ _ _ _ _ _ _
   | exact ih3 _ _ _ _ _ _ _ _ _ _ _
   | exact ih4 _ _ _ _ _ _
   | exact LeO.none _
   | refine LeO.ite ?_ ?_
   | refine LeO.bind ?_ (fun _=>?_)
  ·intro y0 y1 y2 y3 y4 y5 y6 y7
   unfold coppicerref_MachineCheck.l1
   repeat' first
   | (with_reducible exact ih0 _ _ _ _ _ _)
   | (with_reducible exact ih1 _ _ _ _ _ _ _ _)
   | (with_reducible exact ih2 _ _ _ _ _ _ _ _)
   | (with_reducible exact ih3 _ _ _ _ _ _ _ _ _ _ _)
   | (with_reducible exact ih4 _ _ _ _ _ _)
   | (with_reducible exact LeO.refl _)
   | (with_reducible exact LeO.none _)
   | (with_reducible refine LeO.ite ?_ ?_)
   | (with_reducible refine LeO.bind ?_ (fun _=>?_))
   | exact ih0 _ _ _ _ _ _
   | exact ih1 _ _ _ _ _ _ _ _
   | exact ih2 _ _ _ _ _ _ _ _
   | exact ih3 _ _ _ _ _ _ _ _ _ _ _
   | exact ih4 _ _ _ _ _ _
   | exact LeO.none _
   | refine LeO.ite ?_ ?_
   | refine LeO.bind ?_ (fun _=>?_)
  ·intro y0 y1 y2 y3 y4 y5 y6 y7 y8 y9 y10
   unfold coppicerref_MachineCheck.l2
   repeat' first
   | (with_reducible exact ih0 _ _ _ _ _ _)
   | (with_reducible exact ih1 _ _ _ _ _ _ _ _)
   | (with_reducible exact ih2 _ _ _ _ _ _ _ _)
   | (with_reducible exact ih3 _ _ _ _ _ _ _ _ _ _ _)
   | (with_reducible exact ih4 _ _ _ _ _ _)
   | (with_reducible exact LeO.refl _)
   | (with_reducible exact LeO.none _)
   | (with_reducible refine LeO.ite ?_ ?_)
   | (with_reducible refine LeO.bind ?_ (fun _=>?_))
   | exact ih0 _ _ _ _ _ _
   | exact ih1 _ _ _ _ _ _ _ _
   | exact ih2 _ _ _ _ _ _ _ _
   | exact ih3 _ _ _ _ _ _ _ _ _ _ _
   | exact ih4 _ _ _ _ _ _
   | exact LeO.none _
   | refine LeO.ite ?_ ?_
   | refine LeO.bind ?_ (fun _=>?_)
  ·intro y0 y1 y2 y3 y4 y5
   unfold coppicerref_MachineCheck.j4
   repeat' first
   | (with_reducible exact ih0 _ _ _ _ _ _)
   | (with_reducible exact ih1 _ _ _ _ _ _ _ _)
   | (with_reducible exact ih2 _ _ _ _ _ _ _ _)
   | (with_reducible exact ih3 _ _ _ _ _ _ _ _ _ _ _)
   | (with_reducible exact ih4 _ _ _ _ _ _)
   | (with_reducible exact LeO.refl _)
   | (with_reducible exact LeO.none _)
   | (with_reducible refine LeO.ite ?_ ?_)
   | (with_reducible refine LeO.bind ?_ (fun _=>?_))
   | exact ih0 _ _ _ _ _ _
   | exact ih1 _ _ _ _ _ _ _ _
   | exact ih2 _ _ _ _ _ _ _ _
   | exact ih3 _ _ _ _ _ _ _ _ _ _ _
   | exact ih4 _ _ _ _ _ _
   | exact LeO.none _
   | refine LeO.ite ?_ ?_
   | refine LeO.bind ?_ (fun _=>?_)
theorem coppicerref_MachineCheck.mono : ∀ a0 a1 a2 a3 a4 k,LeO (coppicerref_MachineCheck.f k a0 a1 a2 a3 a4) (coppicerref_MachineCheck.f (k + 1) a0 a1 a2 a3 a4):=by
 intro a0 a1 a2 a3 a4 k
 obtain ⟨ih0,ih1,ih2,ih3,ih4⟩:=coppicerref_MachineCheck.mono_l k
 unfold coppicerref_MachineCheck.f
 repeat' first
   | (with_reducible exact ih0 _ _ _ _ _ _)
   | (with_reducible exact ih1 _ _ _ _ _ _ _ _)
   | (with_reducible exact ih2 _ _ _ _ _ _ _ _)
   | (with_reducible exact ih3 _ _ _ _ _ _ _ _ _ _ _)
   | (with_reducible exact ih4 _ _ _ _ _ _)
   | (with_reducible exact LeO.refl _)
   | (with_reducible exact LeO.none _)
   | (with_reducible refine LeO.ite ?_ ?_)
   | (with_reducible refine LeO.bind ?_ (fun _=>?_))
   | exact ih0 _ _ _ _ _ _
   | exact ih1 _ _ _ _ _ _ _ _
   | exact ih2 _ _ _ _ _ _ _ _
   | exact ih3 _ _ _ _ _ _ _ _ _ _ _
   | exact ih4 _ _ _ _ _ _
   | exact LeO.none _
   | refine LeO.ite ?_ ?_
   | refine LeO.bind ?_ (fun _=>?_)
set_option maxHeartbeats 8000000 in
set_option maxRecDepth 100000 in
theorem coppicerref_MachineCheck.calls (k : Nat) (a0_0 : Int) (a0_1 : Int) (A0_2 : Option Addr) (c0_2 : Nat) (l0_2 : List (List Int)) (a0_3 : Int) (a0_4 : Int) (r : Int) (w : World) (hr0_2 : Kd.C (Kd.slice 3 (Kd.int .i64)) w A0_2 l0_2.length l0_2) (hc0_2 : l0_2.length ≤ c0_2) (h : coppicerref_MachineCheck.f k a0_0 a0_1 l0_2 a0_3 a0_4 = some r) :
  Calls Try.prog 35 #[.agg #[.int .i64 a0_0,.int .i64 a0_1,.slice A0_2 l0_2.length c0_2,.int .i64 a0_3,.int .u32 a0_4]] w fun e w'=>e = .returned (.int .i64 r) ∧ Below w.heap.size w w':=by
 have hu63:=Try.underlying63
 have HR0_2:=Aside0.mk hr0_2
 have HC0_2:=Aside0.mk hc0_2
 clear hr0_2 hc0_2
 have HB:=Aside0.mk (Below.refl w.heap.size w)
 have H : (if a0_0 < 1 then (coppicerref_MachineCheck.j0 k true a0_0 a0_1 l0_2 a0_3 a0_4) else (if a0_0 > 7 then (coppicerref_MachineCheck.j0 k true a0_0 a0_1 l0_2 a0_3 a0_4) else (if a0_1 < 1 then (coppicerref_MachineCheck.j0 k true a0_0 a0_1 l0_2 a0_3 a0_4) else (coppicerref_MachineCheck.j0 k (decide (a0_1 > 3)) a0_0 a0_1 l0_2 a0_3 a0_4)))) = some r:=h
 clear h
 have HC2:=Aside0.mk H
 clear H
 go_enter Try.func35,Try.ntmps35
 go_upto_region 1 with (first|((with_reducible refine gate_dst (N:=1) rfl ?_);refine box_event ?hg (N:=1) ?hd (cs:=#[.int .i64 a0_0,.int .i64 a0_1,.slice A0_2 l0_2.length c0_2,.int .i64 a0_3,.int .u32 a0_4]) (t:=63) ?hr ?_;(case hd=>rfl);(case hg=>rfl);(case hr=>first|(go_simp;done)|(go_simp;rfl));intro gb211 hg w3 hbox hb;have n0_:=Aside0.mk (below_step (by repeat (first|(with_reducible first|exact HB.out|apply below_alloc|apply pw_below_drewN|apply below_drew1)|exact HB.out)) hb);have n1_:=Aside0.mk (hbox);have n2_:=Aside0.mk ((by rw [hg];exact (below_size (by repeat (first|(with_reducible first|exact HB.out|apply below_alloc|apply pw_below_drewN|apply below_drew1)|exact HB.out))) : w.heap.size ≤ gb211));have n3_:=Aside0.mk ((by rw [hg];exact (below_size (by repeat (first|(with_reducible first|exact HB.out|apply below_alloc|apply pw_below_drewN|apply below_drew1)|exact HB.out))) : w.heap.size ≤ gb211));clear HB;have HB:=n0_;have BK211:=n1_;have GW211:=n2_;have GE211:=n3_;clear n0_ n1_ n2_ n3_;clear hb hbox hg))
 (try simp only [Act.put,List.setIfInBounds_toArray,List.set_cons_zero,List.set_cons_succ])
 go_cut [26] (fun v26 wc=>∃ (kq : Nat) (x26_1 : Bool),v26 = .bool x26_1 ∧ Aside0 (coppicerref_MachineCheck.j0 kq x26_1 a0_0 a0_1 l0_2 a0_3 a0_4 = some r) ∧ Aside0 (kq ≤ k) ∧ Aside0 (wc.heap[gb211]? = some (.cells #[.int .i64 a0_0,.int .i64 a0_1,(.slice A0_2 l0_2.length c0_2),.int .i64 a0_3,.int .u32 a0_4] 63 (0,0))) ∧ Aside0 (Below w.heap.size w wc))
 case first =>
  have H:=HC2.out
  clear HC2
  by_cases c4 : a0_0 < 1
  ·rw [if_pos c4] at H
   have c4b0 : decide (a0_0 < 1) = true:=decide_eq_true c4
   clear c4
   (first|rw [c4b0]|(simp only [i64_w,i32_w];rw [c4b0])|skip)
   have H':=Aside0.mk H
   clear H
   have hcz5_0 : w3.cell? ⟨gb211,0,none⟩ = some (.int .i64 a0_0):=(blk_cell BK211.out 0).trans rfl
   have hcz5_1 : w3.cell? ⟨gb211,1,none⟩ = some (.int .i64 a0_1):=(blk_cell BK211.out 1).trans rfl
   have hcz5_2 : w3.cell? ⟨gb211,2,none⟩ = some (.slice A0_2 l0_2.length c0_2):=(blk_cell BK211.out 2).trans rfl
   have hcz5_3 : w3.cell? ⟨gb211,3,none⟩ = some (.int .i64 a0_3):=(blk_cell BK211.out 3).trans rfl
   have hcz5_4 : w3.cell? ⟨gb211,4,none⟩ = some (.int .u32 a0_4):=(blk_cell BK211.out 4).trans rfl
   have hfz5_0:=blk_frozen BK211.out 0
   have hfz5_1:=blk_frozen BK211.out 1
   have hfz5_2:=blk_frozen BK211.out 2
   have hfz5_3:=blk_frozen BK211.out 3
   have hfz5_4:=blk_frozen BK211.out 4
   go_wp2
   go_meet
   case rel=>exact ⟨_,(true),(by first|rfl|(simp;done)|(simp [*];done)),H',⟨by first|omega|exact Nat.le_refl _⟩,⟨by (with_reducible repeat (first|refine blk_drewN ?_ _|refine blk_drew ?_|refine blk_alloc ?_ _));exact BK211.out⟩,⟨by repeat (first|(with_reducible first|exact HB.out|apply below_alloc|apply pw_below_drewN|apply below_drew1|refine below_set ?_ GE211.out)|exact HB.out)⟩⟩
  ·rw [if_neg c4] at H
   have c4b0 : decide (a0_0 < 1) = false:=decide_eq_false c4
   clear c4
   (first|rw [c4b0]|(simp only [i64_w,i32_w];rw [c4b0])|skip)
   by_cases c6 : a0_0 > 7
   ·rw [if_pos c6] at H
    have c6b0 : decide (7 < a0_0) = true:=decide_eq_true c6
    clear c6
    have H':=Aside0.mk H
    clear H
    have hcz7_0 : w3.cell? ⟨gb211,0,none⟩ = some (.int .i64 a0_0):=(blk_cell BK211.out 0).trans rfl
    have hcz7_1 : w3.cell? ⟨gb211,1,none⟩ = some (.int .i64 a0_1):=(blk_cell BK211.out 1).trans rfl
    have hcz7_2 : w3.cell? ⟨gb211,2,none⟩ = some (.slice A0_2 l0_2.length c0_2):=(blk_cell BK211.out 2).trans rfl
    have hcz7_3 : w3.cell? ⟨gb211,3,none⟩ = some (.int .i64 a0_3):=(blk_cell BK211.out 3).trans rfl
    have hcz7_4 : w3.cell? ⟨gb211,4,none⟩ = some (.int .u32 a0_4):=(blk_cell BK211.out 4).trans rfl
    have hfz7_0:=blk_frozen BK211.out 0
    have hfz7_1:=blk_frozen BK211.out 1
    have hfz7_2:=blk_frozen BK211.out 2
    have hfz7_3:=blk_frozen BK211.out 3
    have hfz7_4:=blk_frozen BK211.out 4
    go_wp2
    go_meet
    case rel=>exact ⟨_,(true),(by first|rfl|(simp;done)|(simp [*];done)),H',⟨by first|omega|exact Nat.le_refl _⟩,⟨by (with_reducible repeat (first|refine blk_drewN ?_ _|refine blk_drew ?_|refine blk_alloc ?_ _));exact BK211.out⟩,⟨by repeat (first|(with_reducible first|exact HB.out|apply below_alloc|apply pw_below_drewN|apply below_drew1|refine below_set ?_ GE211.out)|exact HB.out)⟩⟩
   ·rw [if_neg c6] at H
    have c6b0 : decide (7 < a0_0) = false:=decide_eq_false c6
    clear c6
    by_cases c8 : a0_1 < 1
    ·rw [if_pos c8] at H
     have c8b0 : decide (a0_1 < 1) = true:=decide_eq_true c8
     clear c8
     have H':=Aside0.mk H
     clear H
     have hcz9_0 : w3.cell? ⟨gb211,0,none⟩ = some (.int .i64 a0_0):=(blk_cell BK211.out 0).trans rfl
     have hcz9_1 : w3.cell? ⟨gb211,1,none⟩ = some (.int .i64 a0_1):=(blk_cell BK211.out 1).trans rfl
     have hcz9_2 : w3.cell? ⟨gb211,2,none⟩ = some (.slice A0_2 l0_2.length c0_2):=(blk_cell BK211.out 2).trans rfl
     have hcz9_3 : w3.cell? ⟨gb211,3,none⟩ = some (.int .i64 a0_3):=(blk_cell BK211.out 3).trans rfl
     have hcz9_4 : w3.cell? ⟨gb211,4,none⟩ = some (.int .u32 a0_4):=(blk_cell BK211.out 4).trans rfl
     have hfz9_0:=blk_frozen BK211.out 0
     have hfz9_1:=blk_frozen BK211.out 1
     have hfz9_2:=blk_frozen BK211.out 2
     have hfz9_3:=blk_frozen BK211.out 3
     have hfz9_4:=blk_frozen BK211.out 4
     go_wp2
     go_meet
     case rel=>exact ⟨_,(true),(by first|rfl|(simp;done)|(simp [*];done)),H',⟨by first|omega|exact Nat.le_refl _⟩,⟨by (with_reducible repeat (first|refine blk_drewN ?_ _|refine blk_drew ?_|refine blk_alloc ?_ _));exact BK211.out⟩,⟨by repeat (first|(with_reducible first|exact HB.out|apply below_alloc|apply pw_below_drewN|apply below_drew1|refine below_set ?_ GE211.out)|exact HB.out)⟩⟩
    ·rw [if_neg c8] at H
     have c8b0 : decide (a0_1 < 1) = false:=decide_eq_false c8
     clear c8
     have H':=Aside0.mk H
     clear H
     have hcz10_0 : w3.cell? ⟨gb211,0,none⟩ = some (.int .i64 a0_0):=(blk_cell BK211.out 0).trans rfl
     have hcz10_1 : w3.cell? ⟨gb211,1,none⟩ = some (.int .i64 a0_1):=(blk_cell BK211.out 1).trans rfl
     have hcz10_2 : w3.cell? ⟨gb211,2,none⟩ = some (.slice A0_2 l0_2.length c0_2):=(blk_cell BK211.out 2).trans rfl
     have hcz10_3 : w3.cell? ⟨gb211,3,none⟩ = some (.int .i64 a0_3):=(blk_cell BK211.out 3).trans rfl
     have hcz10_4 : w3.cell? ⟨gb211,4,none⟩ = some (.int .u32 a0_4):=(blk_cell BK211.out 4).trans rfl
     have hfz10_0:=blk_frozen BK211.out 0
     have hfz10_1:=blk_frozen BK211.out 1
     have hfz10_2:=blk_frozen BK211.out 2
     have hfz10_3:=blk_frozen BK211.out 3
     have hfz10_4:=blk_frozen BK211.out 4
     go_wp2
     go_meet
     case rel=>exact ⟨_,(decide (a0_1 > 3)),(by first|rfl|(simp;done)|(simp [*];done)),H',⟨by first|omega|exact Nat.le_refl _⟩,⟨by (with_reducible repeat (first|refine blk_drewN ?_ _|refine blk_drew ?_|refine blk_alloc ?_ _));exact BK211.out⟩,⟨by repeat (first|(with_reducible first|exact HB.out|apply below_alloc|apply pw_below_drewN|apply below_drew1|refine below_set ?_ GE211.out)|exact HB.out)⟩⟩
 case rest =>
  clear HC2
  try clear p2
  try clear c3
  try clear c4
  try clear c4b0
  try clear c6
  try clear c6b0
  try clear c8
  try clear c8b0
  try clear hcz10_0
  try clear hcz10_1
  try clear hcz10_2
  try clear hcz10_3
  try clear hcz10_4
  try clear hcz5_0
  try clear hcz5_1
  try clear hcz5_2
  try clear hcz5_3
  try clear hcz5_4
  try clear hcz7_0
  try clear hcz7_1
  try clear hcz7_2
  try clear hcz7_3
  try clear hcz7_4
  try clear hcz9_0
  try clear hcz9_1
  try clear hcz9_2
  try clear hcz9_3
  try clear hcz9_4
  try clear hfz10_0
  try clear hfz10_1
  try clear hfz10_2
  try clear hfz10_3
  try clear hfz10_4
  try clear hfz5_0
  try clear hfz5_1
  try clear hfz5_2
  try clear hfz5_3
  try clear hfz5_4
  try clear hfz7_0
  try clear hfz7_1
  try clear hfz7_2
  try clear hfz7_3
  try clear hfz7_4
  try clear hfz9_0
  try clear hfz9_1
  try clear hfz9_2
  try clear hfz9_3
  try clear hfz9_4
  obtain ⟨kq,x26_1,rfl,HA,HJ1,BK211,HB⟩:=hcut
  cases kq with
  | zero=>exact absurd HA.out (by simp [coppicerref_MachineCheck.j0])
  | succ kj1 =>
   have H:=HA.out
   clear HA
   simp only [coppicerref_MachineCheck.j0] at H
   by_cases c11 : x26_1 = true
   ·subst c11
    have H1 : (some 1) = some r:=by rw [if_pos rfl] at H;exact H
    clear H
    have H:=H1
    clear H1
    obtain rfl:=Option.some.inj H
    go_wp2
    go_ret
    exact ⟨by first|rfl|(simp [errW_none,errW_some] <;> rfl)|(simp [*,errW_none,errW_some] <;> rfl),by repeat (first|(with_reducible first|exact HB.out|apply below_alloc|apply pw_below_drewN|apply below_drew1|refine below_set ?_ GE211.out)|exact HB.out)⟩
   ·replace c11:=Bool.eq_false_iff.mpr c11
    subst c11
    have H1 : (if (l0_2.length : Int) = a0_0 then (coppicerref_MachineCheck.l0 kj1 l0_2 (l0_2.length : Int) 0 a0_0 a0_1 l0_2 a0_3 a0_4) else (some 3)) = some r:=by rw [if_neg (show ¬ (false = true) by decide)] at H;exact H
    clear H
    have H:=H1
    clear H1
    by_cases c12 : (l0_2.length : Int) = a0_0
    ·rw [if_pos c12] at H
     have c12b0 : ((l0_2.length : Int) == a0_0) = true:=beq_iff_eq.mpr c12
     have c12b1 : ((l0_2.length : Int) != a0_0) = false:=bne_eq_false_iff_eq.mpr c12
     clear c12
     have H':=Aside0.mk H
     clear H
     have hcz13_0 : wc.cell? ⟨gb211,0,none⟩ = some (.int .i64 a0_0):=(blk_cell BK211.out 0).trans rfl
     have hcz13_1 : wc.cell? ⟨gb211,1,none⟩ = some (.int .i64 a0_1):=(blk_cell BK211.out 1).trans rfl
     have hcz13_2 : wc.cell? ⟨gb211,2,none⟩ = some (.slice A0_2 l0_2.length c0_2):=(blk_cell BK211.out 2).trans rfl
     have hcz13_3 : wc.cell? ⟨gb211,3,none⟩ = some (.int .i64 a0_3):=(blk_cell BK211.out 3).trans rfl
     have hcz13_4 : wc.cell? ⟨gb211,4,none⟩ = some (.int .u32 a0_4):=(blk_cell BK211.out 4).trans rfl
     have hfz13_0:=blk_frozen BK211.out 0
     have hfz13_1:=blk_frozen BK211.out 1
     have hfz13_2:=blk_frozen BK211.out 2
     have hfz13_3:=blk_frozen BK211.out 3
     have hfz13_4:=blk_frozen BK211.out 4
     go_wp2
     go_loopg [36] kj1 (fun kq v36 w'=>∃ (x36_2 : Int),v36 = .int .i64 x36_2 ∧ Aside0 (coppicerref_MachineCheck.l0 kq l0_2 (l0_2.length : Int) x36_2 a0_0 a0_1 l0_2 a0_3 a0_4 = some r) ∧ Aside0 (kq ≤ kj1) ∧ Aside0 (w'.heap[gb211]? = some (.cells #[.int .i64 a0_0,.int .i64 a0_1,(.slice A0_2 l0_2.length c0_2),.int .i64 a0_3,.int .u32 a0_4] 63 (0,0))) ∧ Aside0 (Below w.heap.size w w'))
     case atStart=>exact ⟨(0),(by first|rfl|(simp;done)|(simp [*];done)),H',⟨Nat.le_refl _⟩,⟨by (with_reducible repeat (first|refine blk_drewN ?_ _|refine blk_drew ?_|refine blk_alloc ?_ _));exact BK211.out⟩,⟨by repeat (first|(with_reducible first|exact HB.out|apply below_alloc|apply pw_below_drewN|apply below_drew1|refine below_set ?_ GE211.out)|exact HB.out)⟩⟩
     case round =>
      clear H'
      try clear c1
      try clear p2
      try clear c3
      try clear c4
      try clear c4b0
      try clear c6
      try clear c6b0
      try clear c8
      try clear c8b0
      try clear c11
      try clear c12
      try clear c12b0
      try clear c12b1
      try clear hcz10_0
      try clear hcz10_1
      try clear hcz10_2
      try clear hcz10_3
      try clear hcz10_4
      try clear hcz13_0
      try clear hcz13_1
      try clear hcz13_2
      try clear hcz13_3
      try clear hcz13_4
      try clear hcz5_0
      try clear hcz5_1
      try clear hcz5_2
      try clear hcz5_3
      try clear hcz5_4
      try clear hcz7_0
      try clear hcz7_1
      try clear hcz7_2
      try clear hcz7_3
      try clear hcz7_4
      try clear hcz9_0
      try clear hcz9_1
      try clear hcz9_2
      try clear hcz9_3
      try clear hcz9_4
      try clear hfz10_0
      try clear hfz10_1
      try clear hfz10_2
      try clear hfz10_3
      try clear hfz10_4
      try clear hfz13_0
      try clear hfz13_1
      try clear hfz13_2
      try clear hfz13_3
      try clear hfz13_4
      try clear hfz5_0
      try clear hfz5_1
      try clear hfz5_2
      try clear hfz5_3
      try clear hfz5_4
      try clear hfz7_0
      try clear hfz7_1
      try clear hfz7_2
      try clear hfz7_3
      try clear hfz7_4
      try clear hfz9_0
      try clear hfz9_1
      try clear hfz9_2
      try clear hfz9_3
      try clear hfz9_4
      try clear p2
      obtain ⟨x36_2,rfl,HA,HK2,BK211,HB⟩:=hrel
      cases gk with
      | zero=>exact absurd HA.out (by simp [coppicerref_MachineCheck.l0])
      | succ k2 =>
       have H:=HA.out
       clear HA
       simp only [coppicerref_MachineCheck.l0] at H
       by_cases c14 : x36_2 < (l0_2.length : Int)
       ·rw [if_pos c14] at H
        have c14b0 : decide (x36_2 < (l0_2.length : Int)) = true:=decide_eq_true c14
        clear c14
        by_cases c15 : 0 ≤ x36_2
        ·rw [if_pos c15] at H
         have c15b0 : decide (0 ≤ x36_2) = true:=decide_eq_true c15
         clear c15
         by_cases c16 : x36_2 < (l0_2.length : Int)
         ·rw [if_pos c16] at H
          have c16b0 : decide (x36_2 < (l0_2.length : Int)) = true:=decide_eq_true c16
          clear c16
          by_cases c17 : ((rd_L1 l0_2 x36_2).length : Int) = a0_1
          ·rw [if_pos c17] at H
           have c17b0 : (((rd_L1 l0_2 x36_2).length : Int) == a0_1) = true:=beq_iff_eq.mpr c17
           have c17b1 : (((rd_L1 l0_2 x36_2).length : Int) != a0_1) = false:=bne_eq_false_iff_eq.mpr c17
           clear c17
           have H':=Aside0.mk H
           clear H
           have p212 : 0 ≤ (x36_2 : Int):=of_decide_eq_true (by first|(with_reducible assumption)|assumption)
           have q212 : x36_2 < (l0_2.length : Int):=of_decide_eq_true (by first|(with_reducible assumption)|assumption)
           obtain ⟨ad212,A212_0,c212_0,e212,hx212_0,hl212_0,hi212_0⟩:=at_L1 HR0_2.out x36_2 p212 q212
           cases e212
           replace hx212_0:=(HB.out.cell (World.block_lt_of_cell? w _ hx212_0)).trans hx212_0
           have HR212_0:=Aside0.mk hi212_0
           have HC212_0:=Aside0.mk hl212_0
           clear hi212_0 hl212_0
           replace p212:=eq_true p212
           replace q212:=eq_true q212
           have hcz18_0 : wr.cell? ⟨gb211,0,none⟩ = some (.int .i64 a0_0):=(blk_cell BK211.out 0).trans rfl
           have hcz18_1 : wr.cell? ⟨gb211,1,none⟩ = some (.int .i64 a0_1):=(blk_cell BK211.out 1).trans rfl
           have hcz18_2 : wr.cell? ⟨gb211,2,none⟩ = some (.slice (some ad212) l0_2.length c0_2):=(blk_cell BK211.out 2).trans rfl
           have hcz18_3 : wr.cell? ⟨gb211,3,none⟩ = some (.int .i64 a0_3):=(blk_cell BK211.out 3).trans rfl
           have hcz18_4 : wr.cell? ⟨gb211,4,none⟩ = some (.int .u32 a0_4):=(blk_cell BK211.out 4).trans rfl
           have hfz18_0:=blk_frozen BK211.out 0
           have hfz18_1:=blk_frozen BK211.out 1
           have hfz18_2:=blk_frozen BK211.out 2
           have hfz18_3:=blk_frozen BK211.out 3
           have hfz18_4:=blk_frozen BK211.out 4
           go_wp2
           go_roundg k2
           case measure=>have:=HJ1.out;have:=HK2.out;omega
           case rel=>exact ⟨(wrap64 (x36_2 + 1)),(by first|rfl|(simp;done)|(simp [*];done)),H',⟨by have:=HJ1.out;have:=HK2.out;omega⟩,⟨by (with_reducible repeat (first|refine blk_drewN ?_ _|refine blk_drew ?_|refine blk_alloc ?_ _));exact BK211.out⟩,⟨by repeat (first|(with_reducible first|exact HB.out|apply below_alloc|apply pw_below_drewN|apply below_drew1|refine below_set ?_ GE211.out)|exact HB.out)⟩⟩
          ·rw [if_neg c17] at H
           have c17b0 : (((rd_L1 l0_2 x36_2).length : Int) == a0_1) = false:=beq_eq_false_iff_ne.mpr c17
           have c17b1 : (((rd_L1 l0_2 x36_2).length : Int) != a0_1) = true:=bne_iff_ne.mpr c17
           obtain rfl:=Option.some.inj H
           have p212 : 0 ≤ (x36_2 : Int):=of_decide_eq_true (by first|(with_reducible assumption)|assumption)
           have q212 : x36_2 < (l0_2.length : Int):=of_decide_eq_true (by first|(with_reducible assumption)|assumption)
           obtain ⟨ad212,A212_0,c212_0,e212,hx212_0,hl212_0,hi212_0⟩:=at_L1 HR0_2.out x36_2 p212 q212
           cases e212
           replace hx212_0:=(HB.out.cell (World.block_lt_of_cell? w _ hx212_0)).trans hx212_0
           have HR212_0:=Aside0.mk hi212_0
           have HC212_0:=Aside0.mk hl212_0
           clear hi212_0 hl212_0
           replace p212:=eq_true p212
           replace q212:=eq_true q212
           have hcz19_0 : wr.cell? ⟨gb211,0,none⟩ = some (.int .i64 a0_0):=(blk_cell BK211.out 0).trans rfl
           have hcz19_1 : wr.cell? ⟨gb211,1,none⟩ = some (.int .i64 a0_1):=(blk_cell BK211.out 1).trans rfl
           have hcz19_2 : wr.cell? ⟨gb211,2,none⟩ = some (.slice (some ad212) l0_2.length c0_2):=(blk_cell BK211.out 2).trans rfl
           have hcz19_3 : wr.cell? ⟨gb211,3,none⟩ = some (.int .i64 a0_3):=(blk_cell BK211.out 3).trans rfl
           have hcz19_4 : wr.cell? ⟨gb211,4,none⟩ = some (.int .u32 a0_4):=(blk_cell BK211.out 4).trans rfl
           have hfz19_0:=blk_frozen BK211.out 0
           have hfz19_1:=blk_frozen BK211.out 1
           have hfz19_2:=blk_frozen BK211.out 2
           have hfz19_3:=blk_frozen BK211.out 3
           have hfz19_4:=blk_frozen BK211.out 4
           go_wp2
           go_ret
           exact ⟨by first|rfl|(simp [errW_none,errW_some] <;> rfl)|(simp [*,errW_none,errW_some] <;> rfl),by repeat (first|(with_reducible first|exact HB.out|apply below_alloc|apply pw_below_drewN|apply below_drew1|refine below_set ?_ GE211.out)|exact HB.out)⟩
         ·rw [if_neg c16] at H
          exact absurd H (by simp)
        ·rw [if_neg c15] at H
         exact absurd H (by simp)
       ·rw [if_neg c14] at H
        have c14b0 : decide (x36_2 < (l0_2.length : Int)) = false:=decide_eq_false c14
        clear c14
        have H':=Aside0.mk H
        clear H
        have hcz20_0 : wr.cell? ⟨gb211,0,none⟩ = some (.int .i64 a0_0):=(blk_cell BK211.out 0).trans rfl
        have hcz20_1 : wr.cell? ⟨gb211,1,none⟩ = some (.int .i64 a0_1):=(blk_cell BK211.out 1).trans rfl
        have hcz20_2 : wr.cell? ⟨gb211,2,none⟩ = some (.slice A0_2 l0_2.length c0_2):=(blk_cell BK211.out 2).trans rfl
        have hcz20_3 : wr.cell? ⟨gb211,3,none⟩ = some (.int .i64 a0_3):=(blk_cell BK211.out 3).trans rfl
        have hcz20_4 : wr.cell? ⟨gb211,4,none⟩ = some (.int .u32 a0_4):=(blk_cell BK211.out 4).trans rfl
        have hfz20_0:=blk_frozen BK211.out 0
        have hfz20_1:=blk_frozen BK211.out 1
        have hfz20_2:=blk_frozen BK211.out 2
        have hfz20_3:=blk_frozen BK211.out 3
        have hfz20_4:=blk_frozen BK211.out 4
        go_wp2
        go_loopg [49] k2 (fun kq v49 w'=>∃ (x49_3 : Int),v49 = .int .i64 x49_3 ∧ Aside0 (coppicerref_MachineCheck.l1 kq l0_2 (l0_2.length : Int) x49_3 a0_0 a0_1 l0_2 a0_3 a0_4 = some r) ∧ Aside0 (kq ≤ k2) ∧ Aside0 (w'.heap[gb211]? = some (.cells #[.int .i64 a0_0,.int .i64 a0_1,(.slice A0_2 l0_2.length c0_2),.int .i64 a0_3,.int .u32 a0_4] 63 (0,0))) ∧ Aside0 (Below w.heap.size w w'))
        case atStart=>exact ⟨(0),(by first|rfl|(simp;done)|(simp [*];done)),H',⟨Nat.le_refl _⟩,⟨by (with_reducible repeat (first|refine blk_drewN ?_ _|refine blk_drew ?_|refine blk_alloc ?_ _));exact BK211.out⟩,⟨by repeat (first|(with_reducible first|exact HB.out|apply below_alloc|apply pw_below_drewN|apply below_drew1|refine below_set ?_ GE211.out)|exact HB.out)⟩⟩
        case round =>
         clear H'
         try clear c1
         try clear c2
         try clear p2
         try clear q2
         try clear hx2
         try clear c3
         try clear c4
         try clear c4b0
         try clear c6
         try clear c6b0
         try clear p6
         try clear c8
         try clear c8b0
         try clear c11
         try clear c12
         try clear c12b0
         try clear c12b1
         try clear c14
         try clear c14b0
         try clear c15
         try clear c15b0
         try clear c16
         try clear c16b0
         try clear c17
         try clear c17b0
         try clear c17b1
         try clear hcz10_0
         try clear hcz10_1
         try clear hcz10_2
         try clear hcz10_3
         try clear hcz10_4
         try clear hcz13_0
         try clear hcz13_1
         try clear hcz13_2
         try clear hcz13_3
         try clear hcz13_4
         try clear hcz18_0
         try clear hcz18_1
         try clear hcz18_2
         try clear hcz18_3
         try clear hcz18_4
         try clear hcz19_0
         try clear hcz19_1
         try clear hcz19_2
         try clear hcz19_3
         try clear hcz19_4
         try clear hcz20_0
         try clear hcz20_1
         try clear hcz20_2
         try clear hcz20_3
         try clear hcz20_4
         try clear hcz5_0
         try clear hcz5_1
         try clear hcz5_2
         try clear hcz5_3
         try clear hcz5_4
         try clear hcz7_0
         try clear hcz7_1
         try clear hcz7_2
         try clear hcz7_3
         try clear hcz7_4
         try clear hcz9_0
         try clear hcz9_1
         try clear hcz9_2
         try clear hcz9_3
         try clear hcz9_4
         try clear hfz10_0
         try clear hfz10_1
         try clear hfz10_2
         try clear hfz10_3
         try clear hfz10_4
         try clear hfz13_0
         try clear hfz13_1
         try clear hfz13_2
         try clear hfz13_3
         try clear hfz13_4
         try clear hfz18_0
         try clear hfz18_1
         try clear hfz18_2
         try clear hfz18_3
         try clear hfz18_4
         try clear hfz19_0
         try clear hfz19_1
         try clear hfz19_2
         try clear hfz19_3
         try clear hfz19_4
         try clear hfz20_0
         try clear hfz20_1
         try clear hfz20_2
         try clear hfz20_3
         try clear hfz20_4
         try clear hfz5_0
         try clear hfz5_1
         try clear hfz5_2
         try clear hfz5_3
         try clear hfz5_4
         try clear hfz7_0
         try clear hfz7_1
         try clear hfz7_2
         try clear hfz7_3
         try clear hfz7_4
         try clear hfz9_0
         try clear hfz9_1
         try clear hfz9_2
         try clear hfz9_3
         try clear hfz9_4
         try clear hx212_0
         try clear p2
         try clear p212
         try clear q212
         obtain ⟨x49_3,rfl,HA,HK3,BK211,HB⟩:=hrel
         cases gk with
         | zero=>exact absurd HA.out (by simp [coppicerref_MachineCheck.l1])
         | succ k3 =>
          have H:=HA.out
          clear HA
          simp only [coppicerref_MachineCheck.l1] at H
          by_cases c21 : x49_3 < (l0_2.length : Int)
          ·rw [if_pos c21] at H
           have c21b0 : decide (x49_3 < (l0_2.length : Int)) = true:=decide_eq_true c21
           clear c21
           by_cases c22 : 0 ≤ x49_3
           ·rw [if_pos c22] at H
            have c22b0 : decide (0 ≤ x49_3) = true:=decide_eq_true c22
            clear c22
            by_cases c23 : x49_3 < (l0_2.length : Int)
            ·rw [if_pos c23] at H
             have c23b0 : decide (x49_3 < (l0_2.length : Int)) = true:=decide_eq_true c23
             clear c23
             have H':=Aside0.mk H
             clear H
             have p213 : 0 ≤ (x49_3 : Int):=of_decide_eq_true (by first|(with_reducible assumption)|assumption)
             have q213 : x49_3 < (l0_2.length : Int):=of_decide_eq_true (by first|(with_reducible assumption)|assumption)
             obtain ⟨ad213,A213_0,c213_0,e213,hx213_0,hl213_0,hi213_0⟩:=at_L1 HR0_2.out x49_3 p213 q213
             cases e213
             replace hx213_0:=(HB.out.cell (World.block_lt_of_cell? w _ hx213_0)).trans hx213_0
             have HR213_0:=Aside0.mk hi213_0
             have HC213_0:=Aside0.mk hl213_0
             clear hi213_0 hl213_0
             replace p213:=eq_true p213
             replace q213:=eq_true q213
             go_wp2
             go_loopg [55] k3 (fun kq v55 w'=>∃ (x55_4 : Int),v55 = .int .i64 x55_4 ∧ Aside0 (coppicerref_MachineCheck.l2 kq l0_2 (l0_2.length : Int) x49_3 (rd_L1 l0_2 x49_3) ((rd_L1 l0_2 x49_3).length : Int) x55_4 a0_0 a0_1 l0_2 a0_3 a0_4 = some r) ∧ Aside0 (kq ≤ k3) ∧ Aside0 (w'.heap[gb211]? = some (.cells #[.int .i64 a0_0,.int .i64 a0_1,(.slice (some ad213) l0_2.length c0_2),.int .i64 a0_3,.int .u32 a0_4] 63 (0,0))) ∧ Aside0 (Below w.heap.size w w'))
             case atStart=>exact ⟨(0),(by first|rfl|(simp;done)|(simp [*];done)),H',⟨Nat.le_refl _⟩,⟨by (with_reducible repeat (first|refine blk_drewN ?_ _|refine blk_drew ?_|refine blk_alloc ?_ _));exact BK211.out⟩,⟨by repeat (first|(with_reducible first|exact HB.out|apply below_alloc|apply pw_below_drewN|apply below_drew1|refine below_set ?_ GE211.out)|exact HB.out)⟩⟩
             case round =>
              clear H'
              try clear c1
              try clear c2
              try clear p2
              try clear q2
              try clear hx2
              try clear c3
              try clear c4
              try clear c4b0
              try clear c6
              try clear c6b0
              try clear p6
              try clear c8
              try clear c8b0
              try clear c11
              try clear c12
              try clear c12b0
              try clear c12b1
              try clear c14
              try clear c14b0
              try clear c15
              try clear c15b0
              try clear c16
              try clear c16b0
              try clear c17
              try clear c17b0
              try clear c17b1
              try clear c21
              try clear c21b0
              try clear p21
              try clear q21
              try clear hx21
              try clear c22
              try clear c22b0
              try clear c23
              try clear c23b0
              try clear hcz10_0
              try clear hcz10_1
              try clear hcz10_2
              try clear hcz10_3
              try clear hcz10_4
              try clear hcz13_0
              try clear hcz13_1
              try clear hcz13_2
              try clear hcz13_3
              try clear hcz13_4
              try clear hcz18_0
              try clear hcz18_1
              try clear hcz18_2
              try clear hcz18_3
              try clear hcz18_4
              try clear hcz19_0
              try clear hcz19_1
              try clear hcz19_2
              try clear hcz19_3
              try clear hcz19_4
              try clear hcz20_0
              try clear hcz20_1
              try clear hcz20_2
              try clear hcz20_3
              try clear hcz20_4
              try clear hcz5_0
              try clear hcz5_1
              try clear hcz5_2
              try clear hcz5_3
              try clear hcz5_4
              try clear hcz7_0
              try clear hcz7_1
              try clear hcz7_2
              try clear hcz7_3
              try clear hcz7_4
              try clear hcz9_0
              try clear hcz9_1
              try clear hcz9_2
              try clear hcz9_3
              try clear hcz9_4
              try clear hfz10_0
              try clear hfz10_1
              try clear hfz10_2
              try clear hfz10_3
              try clear hfz10_4
              try clear hfz13_0
              try clear hfz13_1
              try clear hfz13_2
              try clear hfz13_3
              try clear hfz13_4
              try clear hfz18_0
              try clear hfz18_1
              try clear hfz18_2
              try clear hfz18_3
              try clear hfz18_4
              try clear hfz19_0
              try clear hfz19_1
              try clear hfz19_2
              try clear hfz19_3
              try clear hfz19_4
              try clear hfz20_0
              try clear hfz20_1
              try clear hfz20_2
              try clear hfz20_3
              try clear hfz20_4
              try clear hfz5_0
              try clear hfz5_1
              try clear hfz5_2
              try clear hfz5_3
              try clear hfz5_4
              try clear hfz7_0
              try clear hfz7_1
              try clear hfz7_2
              try clear hfz7_3
              try clear hfz7_4
              try clear hfz9_0
              try clear hfz9_1
              try clear hfz9_2
              try clear hfz9_3
              try clear hfz9_4
              try clear hx212_0
              try clear hx213_0
              try clear p2
              try clear p212
              try clear p213
              try clear p6
              try clear q2
              try clear q212
              try clear q213
              obtain ⟨x55_4,rfl,HA,HK4,BK211,HB⟩:=hrel
              cases gk with
              | zero=>exact absurd HA.out (by simp [coppicerref_MachineCheck.l2])
              | succ k4 =>
               have H:=HA.out
               clear HA
               simp only [coppicerref_MachineCheck.l2] at H
               by_cases c24 : x55_4 < ((rd_L1 l0_2 x49_3).length : Int)
               ·rw [if_pos c24] at H
                have c24b0 : decide (x55_4 < ((rd_L1 l0_2 x49_3).length : Int)) = true:=decide_eq_true c24
                clear c24
                by_cases c25 : 0 ≤ x55_4
                ·rw [if_pos c25] at H
                 have c25b0 : decide (0 ≤ x55_4) = true:=decide_eq_true c25
                 clear c25
                 by_cases c26 : x55_4 < ((rd_L1 l0_2 x49_3).length : Int)
                 ·rw [if_pos c26] at H
                  have c26b0 : decide (x55_4 < ((rd_L1 l0_2 x49_3).length : Int)) = true:=decide_eq_true c26
                  clear c26
                  by_cases c27 : (rd (rd_L1 l0_2 x49_3) x55_4) < 0
                  ·rw [if_pos c27] at H
                   have c27b0 : decide ((rd (rd_L1 l0_2 x49_3) x55_4) < 0) = true:=decide_eq_true c27
                   clear c27
                   obtain rfl:=Option.some.inj H
                   have p214 : 0 ≤ (x55_4 : Int):=of_decide_eq_true (by first|(with_reducible assumption)|assumption)
                   have q214 : x55_4 < ((rd_L1 l0_2 x49_3).length : Int):=of_decide_eq_true (by first|(with_reducible assumption)|assumption)
                   obtain ⟨ad214,e214,hx214_0⟩:=Kd.at_int HR213_0.out x55_4 p214 q214
                   cases e214
                   replace hx214_0:=(HB.out.cell (World.block_lt_of_cell? w _ hx214_0)).trans hx214_0
                   replace p214:=eq_true p214
                   replace q214:=eq_true q214
                   go_wp2
                   go_ret
                   exact ⟨by first|rfl|(simp [errW_none,errW_some] <;> rfl)|(simp [*,errW_none,errW_some] <;> rfl),by repeat (first|(with_reducible first|exact HB.out|apply below_alloc|apply pw_below_drewN|apply below_drew1|refine below_set ?_ GE211.out)|exact HB.out)⟩
                  ·rw [if_neg c27] at H
                   have c27b0 : decide ((rd (rd_L1 l0_2 x49_3) x55_4) < 0) = false:=decide_eq_false c27
                   clear c27
                   by_cases c28 : (rd (rd_L1 l0_2 x49_3) x55_4) ≥ a0_0
                   ·rw [if_pos c28] at H
                    have c28b0 : decide (a0_0 ≤ (rd (rd_L1 l0_2 x49_3) x55_4)) = true:=decide_eq_true c28
                    clear c28
                    obtain rfl:=Option.some.inj H
                    have p214 : 0 ≤ (x55_4 : Int):=of_decide_eq_true (by first|(with_reducible assumption)|assumption)
                    have q214 : x55_4 < ((rd_L1 l0_2 x49_3).length : Int):=of_decide_eq_true (by first|(with_reducible assumption)|assumption)
                    obtain ⟨ad214,e214,hx214_0⟩:=Kd.at_int HR213_0.out x55_4 p214 q214
                    cases e214
                    replace hx214_0:=(HB.out.cell (World.block_lt_of_cell? w _ hx214_0)).trans hx214_0
                    replace p214:=eq_true p214
                    replace q214:=eq_true q214
                    have hcz29_0 : wr.cell? ⟨gb211,0,none⟩ = some (.int .i64 a0_0):=(blk_cell BK211.out 0).trans rfl
                    have hcz29_1 : wr.cell? ⟨gb211,1,none⟩ = some (.int .i64 a0_1):=(blk_cell BK211.out 1).trans rfl
                    have hcz29_2 : wr.cell? ⟨gb211,2,none⟩ = some (.slice (some ad213) l0_2.length c0_2):=(blk_cell BK211.out 2).trans rfl
                    have hcz29_3 : wr.cell? ⟨gb211,3,none⟩ = some (.int .i64 a0_3):=(blk_cell BK211.out 3).trans rfl
                    have hcz29_4 : wr.cell? ⟨gb211,4,none⟩ = some (.int .u32 a0_4):=(blk_cell BK211.out 4).trans rfl
                    have hfz29_0:=blk_frozen BK211.out 0
                    have hfz29_1:=blk_frozen BK211.out 1
                    have hfz29_2:=blk_frozen BK211.out 2
                    have hfz29_3:=blk_frozen BK211.out 3
                    have hfz29_4:=blk_frozen BK211.out 4
                    go_wp2
                    go_ret
                    exact ⟨by first|rfl|(simp [errW_none,errW_some] <;> rfl)|(simp [*,errW_none,errW_some] <;> rfl),by repeat (first|(with_reducible first|exact HB.out|apply below_alloc|apply pw_below_drewN|apply below_drew1|refine below_set ?_ GE211.out)|exact HB.out)⟩
                   ·rw [if_neg c28] at H
                    have c28b0 : decide (a0_0 ≤ (rd (rd_L1 l0_2 x49_3) x55_4)) = false:=decide_eq_false c28
                    clear c28
                    have H':=Aside0.mk H
                    clear H
                    have p214 : 0 ≤ (x55_4 : Int):=of_decide_eq_true (by first|(with_reducible assumption)|assumption)
                    have q214 : x55_4 < ((rd_L1 l0_2 x49_3).length : Int):=of_decide_eq_true (by first|(with_reducible assumption)|assumption)
                    obtain ⟨ad214,e214,hx214_0⟩:=Kd.at_int HR213_0.out x55_4 p214 q214
                    cases e214
                    replace hx214_0:=(HB.out.cell (World.block_lt_of_cell? w _ hx214_0)).trans hx214_0
                    replace p214:=eq_true p214
                    replace q214:=eq_true q214
                    have hcz30_0 : wr.cell? ⟨gb211,0,none⟩ = some (.int .i64 a0_0):=(blk_cell BK211.out 0).trans rfl
                    have hcz30_1 : wr.cell? ⟨gb211,1,none⟩ = some (.int .i64 a0_1):=(blk_cell BK211.out 1).trans rfl
                    have hcz30_2 : wr.cell? ⟨gb211,2,none⟩ = some (.slice (some ad213) l0_2.length c0_2):=(blk_cell BK211.out 2).trans rfl
                    have hcz30_3 : wr.cell? ⟨gb211,3,none⟩ = some (.int .i64 a0_3):=(blk_cell BK211.out 3).trans rfl
                    have hcz30_4 : wr.cell? ⟨gb211,4,none⟩ = some (.int .u32 a0_4):=(blk_cell BK211.out 4).trans rfl
                    have hfz30_0:=blk_frozen BK211.out 0
                    have hfz30_1:=blk_frozen BK211.out 1
                    have hfz30_2:=blk_frozen BK211.out 2
                    have hfz30_3:=blk_frozen BK211.out 3
                    have hfz30_4:=blk_frozen BK211.out 4
                    go_wp2
                    go_roundg k4
                    case measure=>have:=HJ1.out;have:=HK2.out;have:=HK3.out;have:=HK4.out;omega
                    case rel=>exact ⟨(wrap64 (x55_4 + 1)),(by first|rfl|(simp;done)|(simp [*];done)),H',⟨by have:=HJ1.out;have:=HK2.out;have:=HK3.out;have:=HK4.out;omega⟩,⟨by (with_reducible repeat (first|refine blk_drewN ?_ _|refine blk_drew ?_|refine blk_alloc ?_ _));exact BK211.out⟩,⟨by repeat (first|(with_reducible first|exact HB.out|apply below_alloc|apply pw_below_drewN|apply below_drew1|refine below_set ?_ GE211.out)|exact HB.out)⟩⟩
                 ·rw [if_neg c26] at H
                  exact absurd H (by simp)
                ·rw [if_neg c25] at H
                 exact absurd H (by simp)
               ·rw [if_neg c24] at H
                have c24b0 : decide (x55_4 < ((rd_L1 l0_2 x49_3).length : Int)) = false:=decide_eq_false c24
                clear c24
                have H':=Aside0.mk H
                clear H
                go_wp2
                go_roundg k4
                case measure=>have:=HJ1.out;have:=HK2.out;have:=HK3.out;have:=HK4.out;omega
                case rel=>exact ⟨(wrap64 (x49_3 + 1)),(by first|rfl|(simp;done)|(simp [*];done)),H',⟨by have:=HJ1.out;have:=HK2.out;have:=HK3.out;have:=HK4.out;omega⟩,⟨by (with_reducible repeat (first|refine blk_drewN ?_ _|refine blk_drew ?_|refine blk_alloc ?_ _));exact BK211.out⟩,⟨by repeat (first|(with_reducible first|exact HB.out|apply below_alloc|apply pw_below_drewN|apply below_drew1|refine below_set ?_ GE211.out)|exact HB.out)⟩⟩
            ·rw [if_neg c23] at H
             exact absurd H (by simp)
           ·rw [if_neg c22] at H
            exact absurd H (by simp)
          ·rw [if_neg c21] at H
           have c21b0 : decide (x49_3 < (l0_2.length : Int)) = false:=decide_eq_false c21
           clear c21
           have HC31:=Aside0.mk H
           clear H
           go_upto_region 21 with (fail)
           go_cut [78] (fun v78 wc=>∃ (kq : Nat) (x78_30 : Bool),v78 = .bool x78_30 ∧ Aside0 (coppicerref_MachineCheck.j4 kq x78_30 a0_0 a0_1 l0_2 a0_3 a0_4 = some r) ∧ Aside0 (kq ≤ k3) ∧ Aside0 (wc.heap[gb211]? = some (.cells #[.int .i64 a0_0,.int .i64 a0_1,(.slice A0_2 l0_2.length c0_2),.int .i64 a0_3,.int .u32 a0_4] 63 (0,0))) ∧ Aside0 (Below w.heap.size w wc))
           case first =>
            have H:=HC31.out
            clear HC31
            by_cases c32 : a0_3 < 0
            ·rw [if_pos c32] at H
             have c32b0 : decide (a0_3 < 0) = true:=decide_eq_true c32
             clear c32
             (first|rw [c32b0]|(simp only [i64_w,i32_w];rw [c32b0])|skip)
             have H':=Aside0.mk H
             clear H
             have hcz33_0 : wr.cell? ⟨gb211,0,none⟩ = some (.int .i64 a0_0):=(blk_cell BK211.out 0).trans rfl
             have hcz33_1 : wr.cell? ⟨gb211,1,none⟩ = some (.int .i64 a0_1):=(blk_cell BK211.out 1).trans rfl
             have hcz33_2 : wr.cell? ⟨gb211,2,none⟩ = some (.slice A0_2 l0_2.length c0_2):=(blk_cell BK211.out 2).trans rfl
             have hcz33_3 : wr.cell? ⟨gb211,3,none⟩ = some (.int .i64 a0_3):=(blk_cell BK211.out 3).trans rfl
             have hcz33_4 : wr.cell? ⟨gb211,4,none⟩ = some (.int .u32 a0_4):=(blk_cell BK211.out 4).trans rfl
             have hfz33_0:=blk_frozen BK211.out 0
             have hfz33_1:=blk_frozen BK211.out 1
             have hfz33_2:=blk_frozen BK211.out 2
             have hfz33_3:=blk_frozen BK211.out 3
             have hfz33_4:=blk_frozen BK211.out 4
             go_wp2
             go_meet
             case rel=>exact ⟨_,(true),(by first|rfl|(simp;done)|(simp [*];done)),H',⟨by have:=HJ1.out;have:=HK2.out;have:=HK3.out;first|omega|exact Nat.le_refl _⟩,⟨by (with_reducible repeat (first|refine blk_drewN ?_ _|refine blk_drew ?_|refine blk_alloc ?_ _));exact BK211.out⟩,⟨by repeat (first|(with_reducible first|exact HB.out|apply below_alloc|apply pw_below_drewN|apply below_drew1|refine below_set ?_ GE211.out)|exact HB.out)⟩⟩
            ·rw [if_neg c32] at H
             have c32b0 : decide (a0_3 < 0) = false:=decide_eq_false c32
             clear c32
             (first|rw [c32b0]|(simp only [i64_w,i32_w];rw [c32b0])|skip)
             have H':=Aside0.mk H
             clear H
             have hcz34_0 : wr.cell? ⟨gb211,0,none⟩ = some (.int .i64 a0_0):=(blk_cell BK211.out 0).trans rfl
             have hcz34_1 : wr.cell? ⟨gb211,1,none⟩ = some (.int .i64 a0_1):=(blk_cell BK211.out 1).trans rfl
             have hcz34_2 : wr.cell? ⟨gb211,2,none⟩ = some (.slice A0_2 l0_2.length c0_2):=(blk_cell BK211.out 2).trans rfl
             have hcz34_3 : wr.cell? ⟨gb211,3,none⟩ = some (.int .i64 a0_3):=(blk_cell BK211.out 3).trans rfl
             have hcz34_4 : wr.cell? ⟨gb211,4,none⟩ = some (.int .u32 a0_4):=(blk_cell BK211.out 4).trans rfl
             have hfz34_0:=blk_frozen BK211.out 0
             have hfz34_1:=blk_frozen BK211.out 1
             have hfz34_2:=blk_frozen BK211.out 2
             have hfz34_3:=blk_frozen BK211.out 3
             have hfz34_4:=blk_frozen BK211.out 4
             go_wp2
             go_meet
             case rel=>exact ⟨_,(decide (a0_3 ≥ a0_0)),(by first|rfl|(simp;done)|(simp [*];done)),H',⟨by have:=HJ1.out;have:=HK2.out;have:=HK3.out;first|omega|exact Nat.le_refl _⟩,⟨by (with_reducible repeat (first|refine blk_drewN ?_ _|refine blk_drew ?_|refine blk_alloc ?_ _));exact BK211.out⟩,⟨by repeat (first|(with_reducible first|exact HB.out|apply below_alloc|apply pw_below_drewN|apply below_drew1|refine below_set ?_ GE211.out)|exact HB.out)⟩⟩
           case rest =>
            clear HC31
            try clear c1
            try clear c2
            try clear p2
            try clear q2
            try clear hx2
            try clear c3
            try clear c4
            try clear c4b0
            try clear c6
            try clear c6b0
            try clear p6
            try clear c8
            try clear c8b0
            try clear c11
            try clear c12
            try clear c12b0
            try clear c12b1
            try clear c14
            try clear c14b0
            try clear c15
            try clear c15b0
            try clear c16
            try clear c16b0
            try clear c17
            try clear c17b0
            try clear c17b1
            try clear c21
            try clear c21b0
            try clear p21
            try clear q21
            try clear hx21
            try clear c22
            try clear c22b0
            try clear c23
            try clear c23b0
            try clear c24
            try clear c24b0
            try clear c25
            try clear c25b0
            try clear c26
            try clear c26b0
            try clear c27
            try clear c27b0
            try clear c28
            try clear c28b0
            try clear c32
            try clear c32b0
            try clear hcz10_0
            try clear hcz10_1
            try clear hcz10_2
            try clear hcz10_3
            try clear hcz10_4
            try clear hcz13_0
            try clear hcz13_1
            try clear hcz13_2
            try clear hcz13_3
            try clear hcz13_4
            try clear hcz18_0
            try clear hcz18_1
            try clear hcz18_2
            try clear hcz18_3
            try clear hcz18_4
            try clear hcz19_0
            try clear hcz19_1
            try clear hcz19_2
            try clear hcz19_3
            try clear hcz19_4
            try clear hcz20_0
            try clear hcz20_1
            try clear hcz20_2
            try clear hcz20_3
            try clear hcz20_4
            try clear hcz29_0
            try clear hcz29_1
            try clear hcz29_2
            try clear hcz29_3
            try clear hcz29_4
            try clear hcz30_0
            try clear hcz30_1
            try clear hcz30_2
            try clear hcz30_3
            try clear hcz30_4
            try clear hcz33_0
            try clear hcz33_1
            try clear hcz33_2
            try clear hcz33_3
            try clear hcz33_4
            try clear hcz34_0
            try clear hcz34_1
            try clear hcz34_2
            try clear hcz34_3
            try clear hcz34_4
            try clear hcz5_0
            try clear hcz5_1
            try clear hcz5_2
            try clear hcz5_3
            try clear hcz5_4
            try clear hcz7_0
            try clear hcz7_1
            try clear hcz7_2
            try clear hcz7_3
            try clear hcz7_4
            try clear hcz9_0
            try clear hcz9_1
            try clear hcz9_2
            try clear hcz9_3
            try clear hcz9_4
            try clear hfz10_0
            try clear hfz10_1
            try clear hfz10_2
            try clear hfz10_3
            try clear hfz10_4
            try clear hfz13_0
            try clear hfz13_1
            try clear hfz13_2
            try clear hfz13_3
            try clear hfz13_4
            try clear hfz18_0
            try clear hfz18_1
            try clear hfz18_2
            try clear hfz18_3
            try clear hfz18_4
            try clear hfz19_0
            try clear hfz19_1
            try clear hfz19_2
            try clear hfz19_3
            try clear hfz19_4
            try clear hfz20_0
            try clear hfz20_1
            try clear hfz20_2
            try clear hfz20_3
            try clear hfz20_4
            try clear hfz29_0
            try clear hfz29_1
            try clear hfz29_2
            try clear hfz29_3
            try clear hfz29_4
            try clear hfz30_0
            try clear hfz30_1
            try clear hfz30_2
            try clear hfz30_3
            try clear hfz30_4
            try clear hfz33_0
            try clear hfz33_1
            try clear hfz33_2
            try clear hfz33_3
            try clear hfz33_4
            try clear hfz34_0
            try clear hfz34_1
            try clear hfz34_2
            try clear hfz34_3
            try clear hfz34_4
            try clear hfz5_0
            try clear hfz5_1
            try clear hfz5_2
            try clear hfz5_3
            try clear hfz5_4
            try clear hfz7_0
            try clear hfz7_1
            try clear hfz7_2
            try clear hfz7_3
            try clear hfz7_4
            try clear hfz9_0
            try clear hfz9_1
            try clear hfz9_2
            try clear hfz9_3
            try clear hfz9_4
            try clear hx212_0
            try clear hx213_0
            try clear hx214_0
            try clear p2
            try clear p21
            try clear p212
            try clear p213
            try clear p214
            try clear p6
            try clear q2
            try clear q21
            try clear q212
            try clear q213
            try clear q214
            obtain ⟨kq,x78_30,rfl,HA,HJ30,BK211,HB⟩:=hcut
            cases kq with
            | zero=>exact absurd HA.out (by simp [coppicerref_MachineCheck.j4])
            | succ kj30 =>
             have H:=HA.out
             clear HA
             simp only [coppicerref_MachineCheck.j4] at H
             by_cases c35 : x78_30 = true
             ·subst c35
              have H1 : (some 2) = some r:=by rw [if_pos rfl] at H;exact H
              clear H
              have H:=H1
              clear H1
              obtain rfl:=Option.some.inj H
              go_wp2
              go_ret
              exact ⟨by first|rfl|(simp [errW_none,errW_some] <;> rfl)|(simp [*,errW_none,errW_some] <;> rfl),by repeat (first|(with_reducible first|exact HB.out|apply below_alloc|apply pw_below_drewN|apply below_drew1|refine below_set ?_ GE211.out)|exact HB.out)⟩
             ·replace c35:=Bool.eq_false_iff.mpr c35
              subst c35
              have H1 : (if 0 ≤ (IntKind.u64.wrap (a0_0)) then (if a0_4 ≥ (shl .u32 1 (IntKind.u64.wrap (a0_0))) then (some 4) else (some 0)) else (none)) = some r:=by rw [if_neg (show ¬ (false = true) by decide)] at H;exact H
              clear H
              have H:=H1
              clear H1
              obtain ⟨ji36,hji36⟩ : ∃ j_ : Int,(IntKind.u64.wrap (a0_0)) = j_:=⟨_,rfl⟩
              replace H : (if 0 ≤ (ji36) then (if a0_4 ≥ (shl .u32 1 (ji36)) then (some 4) else (some 0)) else (none)) = some r:=by first|(rw [hji36] at H;exact H)|(simp only [hji36] at H ⊢;exact H)
              by_cases c37 : 0 ≤ (ji36)
              ·rw [if_pos c37] at H
               have c37b0:=eq_true c37
               have c37b1 : decide (0 ≤ (ji36)) = true:=decide_eq_true c37
               clear c37
               obtain ⟨ji38,hji38⟩ : ∃ j_ : Int,(shl .u32 1 (ji36)) = j_:=⟨_,rfl⟩
               replace H : (if a0_4 ≥ (ji38) then (some 4) else (some 0)) = some r:=by first|(rw [hji38] at H;exact H)|(simp only [hji38] at H ⊢;exact H)
               have hji38_ : (IntKind.u32.wrap (1 * 2 ^ min (ji36).toNat 32)) = ji38:=hji38
               have hji38z : (ji36) ≤ 32 → (IntKind.u32.wrap (1 * 2 ^ (ji36).toNat)) = ji38:=shl_small hji38
               have hji38u : (IntKind.u32.wrap (2 ^ min (ji36).toNat 32)) = ji38:=by have h_:=hji38_;rw [Int.one_mul] at h_;exact h_
               have hji38v : (ji36) ≤ 32 → (IntKind.u32.wrap (2 ^ (ji36).toNat)) = ji38:=fun hle_=>by have h_:=hji38z hle_;rw [Int.one_mul] at h_;exact h_
               by_cases c39 : a0_4 ≥ (ji38)
               ·rw [if_pos c39] at H
                have c39b0 : decide ((ji38) ≤ a0_4) = true:=decide_eq_true c39
                clear c39
                obtain rfl:=Option.some.inj H
                have hcz40_0 : wc.cell? ⟨gb211,0,none⟩ = some (.int .i64 a0_0):=(blk_cell BK211.out 0).trans rfl
                have hcz40_1 : wc.cell? ⟨gb211,1,none⟩ = some (.int .i64 a0_1):=(blk_cell BK211.out 1).trans rfl
                have hcz40_2 : wc.cell? ⟨gb211,2,none⟩ = some (.slice A0_2 l0_2.length c0_2):=(blk_cell BK211.out 2).trans rfl
                have hcz40_3 : wc.cell? ⟨gb211,3,none⟩ = some (.int .i64 a0_3):=(blk_cell BK211.out 3).trans rfl
                have hcz40_4 : wc.cell? ⟨gb211,4,none⟩ = some (.int .u32 a0_4):=(blk_cell BK211.out 4).trans rfl
                have hfz40_0:=blk_frozen BK211.out 0
                have hfz40_1:=blk_frozen BK211.out 1
                have hfz40_2:=blk_frozen BK211.out 2
                have hfz40_3:=blk_frozen BK211.out 3
                have hfz40_4:=blk_frozen BK211.out 4
                go_wp2
                go_ret
                exact ⟨by first|rfl|(simp [errW_none,errW_some] <;> rfl)|(simp only [← hji36,← hji38];first|rfl|(simp [errW_none,errW_some] <;> rfl))|(simp [*,errW_none,errW_some] <;> rfl),by repeat (first|(with_reducible first|exact HB.out|apply below_alloc|apply pw_below_drewN|apply below_drew1|refine below_set ?_ GE211.out)|exact HB.out)⟩
               ·rw [if_neg c39] at H
                have c39b0 : decide ((ji38) ≤ a0_4) = false:=decide_eq_false c39
                clear c39
                obtain rfl:=Option.some.inj H
                have hcz41_0 : wc.cell? ⟨gb211,0,none⟩ = some (.int .i64 a0_0):=(blk_cell BK211.out 0).trans rfl
                have hcz41_1 : wc.cell? ⟨gb211,1,none⟩ = some (.int .i64 a0_1):=(blk_cell BK211.out 1).trans rfl
                have hcz41_2 : wc.cell? ⟨gb211,2,none⟩ = some (.slice A0_2 l0_2.length c0_2):=(blk_cell BK211.out 2).trans rfl
                have hcz41_3 : wc.cell? ⟨gb211,3,none⟩ = some (.int .i64 a0_3):=(blk_cell BK211.out 3).trans rfl
                have hcz41_4 : wc.cell? ⟨gb211,4,none⟩ = some (.int .u32 a0_4):=(blk_cell BK211.out 4).trans rfl
                have hfz41_0:=blk_frozen BK211.out 0
                have hfz41_1:=blk_frozen BK211.out 1
                have hfz41_2:=blk_frozen BK211.out 2
                have hfz41_3:=blk_frozen BK211.out 3
                have hfz41_4:=blk_frozen BK211.out 4
                go_wp2
                go_ret
                exact ⟨by first|rfl|(simp [errW_none,errW_some] <;> rfl)|(simp only [← hji36,← hji38];first|rfl|(simp [errW_none,errW_some] <;> rfl))|(simp [*,errW_none,errW_some] <;> rfl),by repeat (first|(with_reducible first|exact HB.out|apply below_alloc|apply pw_below_drewN|apply below_drew1|refine below_set ?_ GE211.out)|exact HB.out)⟩
              ·rw [if_neg c37] at H
               exact absurd H (by simp)
    ·rw [if_neg c12] at H
     have c12b0 : ((l0_2.length : Int) == a0_0) = false:=beq_eq_false_iff_ne.mpr c12
     have c12b1 : ((l0_2.length : Int) != a0_0) = true:=bne_iff_ne.mpr c12
     obtain rfl:=Option.some.inj H
     have hcz42_0 : wc.cell? ⟨gb211,0,none⟩ = some (.int .i64 a0_0):=(blk_cell BK211.out 0).trans rfl
     have hcz42_1 : wc.cell? ⟨gb211,1,none⟩ = some (.int .i64 a0_1):=(blk_cell BK211.out 1).trans rfl
     have hcz42_2 : wc.cell? ⟨gb211,2,none⟩ = some (.slice A0_2 l0_2.length c0_2):=(blk_cell BK211.out 2).trans rfl
     have hcz42_3 : wc.cell? ⟨gb211,3,none⟩ = some (.int .i64 a0_3):=(blk_cell BK211.out 3).trans rfl
     have hcz42_4 : wc.cell? ⟨gb211,4,none⟩ = some (.int .u32 a0_4):=(blk_cell BK211.out 4).trans rfl
     have hfz42_0:=blk_frozen BK211.out 0
     have hfz42_1:=blk_frozen BK211.out 1
     have hfz42_2:=blk_frozen BK211.out 2
     have hfz42_3:=blk_frozen BK211.out 3
     have hfz42_4:=blk_frozen BK211.out 4
     go_wp2
     go_ret
     exact ⟨by first|rfl|(simp [errW_none,errW_some] <;> rfl)|(simp [*,errW_none,errW_some] <;> rfl),by repeat (first|(with_reducible first|exact HB.out|apply below_alloc|apply pw_below_drewN|apply below_drew1|refine below_set ?_ GE211.out)|exact HB.out)⟩
end Go.Proofs.Ythgiiikjcfhgjaa.GV
