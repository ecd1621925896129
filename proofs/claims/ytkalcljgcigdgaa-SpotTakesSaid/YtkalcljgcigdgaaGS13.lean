-- Written by ext.py, a program of this session.
import Derived.Test.YtkalcljgcigdgaaGS0
namespace Go.Proofs.Ytkalcljgcigdgaa.GS
open Go.RowKit Go.Proofs.YtkalcljgcigdgaaW.PrintWords Go.Proofs.YtkalcljgcigdgaaW.PrintLast Go.Proofs.YtkalcljgcigdgaaW.PrintMore
attribute [local go_sem] max2_int min2_int max_two min_two max_three min_three max_four min_four cellIs_set   -- for this text's walks alone
set_option linter.unusedVariables false
set_option linter.unusedSimpArgs false
/-! ### net_Check: function 43 -/
mutual
def net_Check.j0 : Nat → Bool → Int → Int → List (S42) → Int → Int → Option (Int)
 | 0,_,_,_,_,_,_=>none
 | k + 1,x28,x185000,x185001,x185002,x185003,x185004=>if x28 = true then (some 1) else (net_Check.l0 k x185002 (x185002.length : Int) 0 x185000 x185001 x185002 x185003 x185004)
def net_Check.l0 : Nat → List (S42) → Int → Int → Int → Int → List (S42) → Int → Int → Option (Int)
 | 0,_,_,_,_,_,_,_,_=>none
 | k + 1,x30,x31,x32,x185000,x185001,x185002,x185003,x185004=>if x32 < x31 then (if 0 ≤ x32 then (if x32 < (x30.length : Int) then (if (mn ((rd_T42 x30 x32).f0) ((rd_T42 x30 x32).f2)) < 0 then (some 2) else (if (mx ((rd_T42 x30 x32).f0) ((rd_T42 x30 x32).f2)) ≥ x185000 then (some 2) else (if ((rd_T42 x30 x32).f1) < (-1) then (some 2) else (if ((rd_T42 x30 x32).f1) ≥ x185001 then (some 2) else (net_Check.l0 k x30 x31 (wrap64 (x32 + 1)) x185000 x185001 x185002 x185003 x185004))))) else (none)) else (none)) else (if 0 ≤ x185000 then (if (shr .u32 (Go.bits .or .u32 x185003 x185004) x185000) = 0 then (some 0) else (some 4)) else (none))
end
def net_Check.f (k : Nat) (a0_0 : Int) (a0_1 : Int) (l0_2 : List (S42)) (a0_3 : Int) (a0_4 : Int) : Option (Int):=if a0_0 < 1 then (net_Check.j0 k true a0_0 a0_1 l0_2 a0_3 a0_4) else (if a0_0 > 7 then (net_Check.j0 k true a0_0 a0_1 l0_2 a0_3 a0_4) else (if a0_1 < 1 then (net_Check.j0 k true a0_0 a0_1 l0_2 a0_3 a0_4) else (if a0_1 > 3 then (net_Check.j0 k true a0_0 a0_1 l0_2 a0_3 a0_4) else (net_Check.j0 k (decide ((l0_2.length : Int) > 60)) a0_0 a0_1 l0_2 a0_3 a0_4))))
theorem net_Check.mono_l : ∀ k,(∀ y0 y1 y2 y3 y4 y5,LeO (net_Check.j0 k y0 y1 y2 y3 y4 y5) (net_Check.j0 (k + 1) y0 y1 y2 y3 y4 y5)) ∧ (∀ y0 y1 y2 y3 y4 y5 y6 y7,LeO (net_Check.l0 k y0 y1 y2 y3 y4 y5 y6 y7) (net_Check.l0 (k + 1) y0 y1 y2 y3 y4 y5 y6 y7))
 | 0=>⟨fun _ _ _ _ _ _ r h=>by simp [net_Check.j0] at h,fun _ _ _ _ _ _ _ _ r h=>by simp [net_Check.l0] at h⟩
 | k + 1=>by
  obtain ⟨ih0,ih1⟩:=net_Check.mono_l k
  refine ⟨?_,?_⟩
  ·intro y0 y1 y2 y3 y4 y5
   unfold net_Check.j0
   repeat' first
   | (with_reducible exact ih0 _ _ _ _ _ _)
   | (with_reducible exact ih1 _ _ _ _ _ _ _ _)
   | (with_reducible exact LeO.refl _)
   | (with_reducible exact LeO.none _)
   | (with_reducible refine LeO.ite ?_ ?_)
   | (with_reducible refine LeO.bind ?_ (fun _=>?_))
   | exact ih0 _ _ _ _ _ _
   | exact ih1 _ _ _ _ _ _ _ _
   | exact LeO.none _
   | refine LeO.ite ?_ ?_
   | refine LeO.bind ?_ (fun _=>?_)
  ·intro y0 y1 y2 y3 y4 y5 y6 y7
   unfold net_Check.l0
   repeat' first
   | (with_reducible exact ih0 _ _ _ _ _ _)
   | (with_reducible exact ih1 _ _ _ _ _ _ _ _)
   | (with_reducible exact LeO.refl _)
   | (with_reducible exact LeO.none _)
   | (with_reducible refine LeO.ite ?_ ?_)
   | (with_reducible refine LeO.bind ?_ (fun _=>?_))
   | exact ih0 _ _ _ _ _ _
   | exact ih1 _ _ _ _ _ _ _ _
   | exact LeO.none _
   | refine LeO.ite ?_ ?_
   | refine LeO.bind ?_ (fun _=>?_)
theorem net_Check.mono : ∀ a0 a1 a2 a3 a4 k,LeO (net_Check.f k a0 a1 a2 a3 a4) (net_Check.f (k + 1) a0 a1 a2 a3 a4):=by
 intro a0 a1 a2 a3 a4 k
 obtain ⟨ih0,ih1⟩:=net_Check.mono_l k
 unfold net_Check.f
 repeat' first
   | (with_reducible exact ih0 _ _ _ _ _ _)
   | (with_reducible exact ih1 _ _ _ _ _ _ _ _)
   | (with_reducible exact LeO.refl _)
   | (with_reducible exact LeO.none _)
   | (with_reducible refine LeO.ite ?_ ?_)
   | (with_reducible refine LeO.bind ?_ (fun _=>?_))
   | exact ih0 _ _ _ _ _ _
   | exact ih1 _ _ _ _ _ _ _ _
   | exact LeO.none _
   | refine LeO.ite ?_ ?_
   | refine LeO.bind ?_ (fun _=>?_)
set_option maxHeartbeats 8000000 in
set_option maxRecDepth 100000 in
theorem net_Check.calls (k : Nat) (a0_0 : Int) (a0_1 : Int) (A0_2 : Option Addr) (c0_2 : Nat) (l0_2 : List (S42)) (a0_3 : Int) (a0_4 : Int) (r : Int) (w : World) (hr0_2 : Kd.C k42 w A0_2 l0_2.length l0_2) (hc0_2 : l0_2.length ≤ c0_2) (h : net_Check.f k a0_0 a0_1 l0_2 a0_3 a0_4 = some r) :
  Calls Try.prog 43 #[.agg #[.int .i64 a0_0,.int .i64 a0_1,.slice A0_2 l0_2.length c0_2,.int .u32 a0_3,.int .u32 a0_4]] w fun e w'=>e = .returned (.int .i64 r) ∧ Below w.heap.size w w':=by
 have hu35:=Try.underlying35
 have hu42:=Try.underlying42
 have HR0_2:=Aside0.mk hr0_2
 have HC0_2:=Aside0.mk hc0_2
 clear hr0_2 hc0_2
 have HB:=Aside0.mk (Below.refl w.heap.size w)
 have H : (if a0_0 < 1 then (net_Check.j0 k true a0_0 a0_1 l0_2 a0_3 a0_4) else (if a0_0 > 7 then (net_Check.j0 k true a0_0 a0_1 l0_2 a0_3 a0_4) else (if a0_1 < 1 then (net_Check.j0 k true a0_0 a0_1 l0_2 a0_3 a0_4) else (if a0_1 > 3 then (net_Check.j0 k true a0_0 a0_1 l0_2 a0_3 a0_4) else (net_Check.j0 k (decide ((l0_2.length : Int) > 60)) a0_0 a0_1 l0_2 a0_3 a0_4))))) = some r:=h
 clear h
 have HC2:=Aside0.mk H
 clear H
 go_enter Try.func43,Try.ntmps43
 go_upto_region 1 with (first|((with_reducible refine gate_dst (N:=1) rfl ?_);(try (refine gate_guard (by rfl) ?_;dsimp only));refine box_event ?hg (N:=1) ?hd (cs:=#[.int .i64 a0_0,.int .i64 a0_1,.slice A0_2 l0_2.length c0_2,.int .u32 a0_3,.int .u32 a0_4]) (t:=35) ?hr ?_;(case hd=>rfl);(case hg=>rfl);(case hr=>first|(go_simp;done)|(go_simp;rfl));intro gb184 hg w3 hbox hb;have n0_:=Aside0.mk (below_step (by repeat (first|(with_reducible first|exact HB.out|apply below_alloc|apply pw_below_drewN|apply below_drew1)|exact HB.out)) hb);have n1_:=Aside0.mk (hbox);have n2_:=Aside0.mk ((by rw [hg];exact (below_size (by repeat (first|(with_reducible first|exact HB.out|apply below_alloc|apply pw_below_drewN|apply below_drew1)|exact HB.out))) : w.heap.size ≤ gb184));have n3_:=Aside0.mk ((by rw [hg];exact (below_size (by repeat (first|(with_reducible first|exact HB.out|apply below_alloc|apply pw_below_drewN|apply below_drew1)|exact HB.out))) : w.heap.size ≤ gb184));clear HB;have HB:=n0_;have BK184:=n1_;have GW184:=n2_;have GE184:=n3_;clear n0_ n1_ n2_ n3_;clear hb hbox hg))
 (try simp only [Act.put,List.setIfInBounds_toArray,List.set_cons_zero,List.set_cons_succ])
 go_cut [28] (fun v28 wc=>∃ (kq : Nat) (x28_1 : Bool),v28 = .bool x28_1 ∧ Aside0 (net_Check.j0 kq x28_1 a0_0 a0_1 l0_2 a0_3 a0_4 = some r) ∧ Aside0 (kq ≤ k) ∧ Aside0 (wc.heap[gb184]? = some (.cells #[.int .i64 a0_0,.int .i64 a0_1,(.slice A0_2 l0_2.length c0_2),.int .u32 a0_3,.int .u32 a0_4] 35 (0,0))) ∧ Aside0 (Below w.heap.size w wc))
 case first =>
  have H:=HC2.out
  clear HC2
  by_cases c4 : a0_0 < 1
  ·rw [if_pos c4] at H
   have c4b0 : decide (a0_0 < 1) = true:=decide_eq_true c4
   clear c4
   (first|rw [c4b0]|(simp only [i64_w,i32_w];rw [c4b0])|skip)
   have H':=Aside0.mk H
   clear H
   have hcz5_0 : w3.cell? ⟨gb184,0,none⟩ = some (.int .i64 a0_0):=(blk_cell BK184.out 0).trans rfl
   have hcz5_1 : w3.cell? ⟨gb184,1,none⟩ = some (.int .i64 a0_1):=(blk_cell BK184.out 1).trans rfl
   have hcz5_2 : w3.cell? ⟨gb184,2,none⟩ = some (.slice A0_2 l0_2.length c0_2):=(blk_cell BK184.out 2).trans rfl
   have hcz5_3 : w3.cell? ⟨gb184,3,none⟩ = some (.int .u32 a0_3):=(blk_cell BK184.out 3).trans rfl
   have hcz5_4 : w3.cell? ⟨gb184,4,none⟩ = some (.int .u32 a0_4):=(blk_cell BK184.out 4).trans rfl
   have hfz5_0:=blk_frozen BK184.out 0
   have hfz5_1:=blk_frozen BK184.out 1
   have hfz5_2:=blk_frozen BK184.out 2
   have hfz5_3:=blk_frozen BK184.out 3
   have hfz5_4:=blk_frozen BK184.out 4
   go_wp2
   go_meet
   case rel=>exact ⟨_,(true),(by first|rfl|(simp;done)|(simp [*];done)),H',⟨by first|omega|exact Nat.le_refl _⟩,⟨by (with_reducible repeat (first|refine blk_drewN ?_ _|refine blk_drew ?_|refine blk_alloc ?_ _));exact BK184.out⟩,⟨by repeat (first|(with_reducible first|exact HB.out|apply below_alloc|apply pw_below_drewN|apply below_drew1|refine below_set ?_ GE184.out)|exact HB.out)⟩⟩
  ·rw [if_neg c4] at H
   have c4b0 : decide (a0_0 < 1) = false:=decide_eq_false c4
   clear c4
   (first|rw [c4b0]|(simp only [i64_w,i32_w];rw [c4b0])|skip)
   by_cases c6 : a0_0 > 7
   ·rw [if_pos c6] at H
    have c6b0 : decide (7 < a0_0) = true:=decide_eq_true c6
    clear c6
    have H':=Aside0.mk H
    clear H
    have hcz7_0 : w3.cell? ⟨gb184,0,none⟩ = some (.int .i64 a0_0):=(blk_cell BK184.out 0).trans rfl
    have hcz7_1 : w3.cell? ⟨gb184,1,none⟩ = some (.int .i64 a0_1):=(blk_cell BK184.out 1).trans rfl
    have hcz7_2 : w3.cell? ⟨gb184,2,none⟩ = some (.slice A0_2 l0_2.length c0_2):=(blk_cell BK184.out 2).trans rfl
    have hcz7_3 : w3.cell? ⟨gb184,3,none⟩ = some (.int .u32 a0_3):=(blk_cell BK184.out 3).trans rfl
    have hcz7_4 : w3.cell? ⟨gb184,4,none⟩ = some (.int .u32 a0_4):=(blk_cell BK184.out 4).trans rfl
    have hfz7_0:=blk_frozen BK184.out 0
    have hfz7_1:=blk_frozen BK184.out 1
    have hfz7_2:=blk_frozen BK184.out 2
    have hfz7_3:=blk_frozen BK184.out 3
    have hfz7_4:=blk_frozen BK184.out 4
    go_wp2
    go_meet
    case rel=>exact ⟨_,(true),(by first|rfl|(simp;done)|(simp [*];done)),H',⟨by first|omega|exact Nat.le_refl _⟩,⟨by (with_reducible repeat (first|refine blk_drewN ?_ _|refine blk_drew ?_|refine blk_alloc ?_ _));exact BK184.out⟩,⟨by repeat (first|(with_reducible first|exact HB.out|apply below_alloc|apply pw_below_drewN|apply below_drew1|refine below_set ?_ GE184.out)|exact HB.out)⟩⟩
   ·rw [if_neg c6] at H
    have c6b0 : decide (7 < a0_0) = false:=decide_eq_false c6
    clear c6
    by_cases c8 : a0_1 < 1
    ·rw [if_pos c8] at H
     have c8b0 : decide (a0_1 < 1) = true:=decide_eq_true c8
     clear c8
     have H':=Aside0.mk H
     clear H
     have hcz9_0 : w3.cell? ⟨gb184,0,none⟩ = some (.int .i64 a0_0):=(blk_cell BK184.out 0).trans rfl
     have hcz9_1 : w3.cell? ⟨gb184,1,none⟩ = some (.int .i64 a0_1):=(blk_cell BK184.out 1).trans rfl
     have hcz9_2 : w3.cell? ⟨gb184,2,none⟩ = some (.slice A0_2 l0_2.length c0_2):=(blk_cell BK184.out 2).trans rfl
     have hcz9_3 : w3.cell? ⟨gb184,3,none⟩ = some (.int .u32 a0_3):=(blk_cell BK184.out 3).trans rfl
     have hcz9_4 : w3.cell? ⟨gb184,4,none⟩ = some (.int .u32 a0_4):=(blk_cell BK184.out 4).trans rfl
     have hfz9_0:=blk_frozen BK184.out 0
     have hfz9_1:=blk_frozen BK184.out 1
     have hfz9_2:=blk_frozen BK184.out 2
     have hfz9_3:=blk_frozen BK184.out 3
     have hfz9_4:=blk_frozen BK184.out 4
     go_wp2
     go_meet
     case rel=>exact ⟨_,(true),(by first|rfl|(simp;done)|(simp [*];done)),H',⟨by first|omega|exact Nat.le_refl _⟩,⟨by (with_reducible repeat (first|refine blk_drewN ?_ _|refine blk_drew ?_|refine blk_alloc ?_ _));exact BK184.out⟩,⟨by repeat (first|(with_reducible first|exact HB.out|apply below_alloc|apply pw_below_drewN|apply below_drew1|refine below_set ?_ GE184.out)|exact HB.out)⟩⟩
    ·rw [if_neg c8] at H
     have c8b0 : decide (a0_1 < 1) = false:=decide_eq_false c8
     clear c8
     by_cases c10 : a0_1 > 3
     ·rw [if_pos c10] at H
      have c10b0 : decide (3 < a0_1) = true:=decide_eq_true c10
      clear c10
      have H':=Aside0.mk H
      clear H
      have hcz11_0 : w3.cell? ⟨gb184,0,none⟩ = some (.int .i64 a0_0):=(blk_cell BK184.out 0).trans rfl
      have hcz11_1 : w3.cell? ⟨gb184,1,none⟩ = some (.int .i64 a0_1):=(blk_cell BK184.out 1).trans rfl
      have hcz11_2 : w3.cell? ⟨gb184,2,none⟩ = some (.slice A0_2 l0_2.length c0_2):=(blk_cell BK184.out 2).trans rfl
      have hcz11_3 : w3.cell? ⟨gb184,3,none⟩ = some (.int .u32 a0_3):=(blk_cell BK184.out 3).trans rfl
      have hcz11_4 : w3.cell? ⟨gb184,4,none⟩ = some (.int .u32 a0_4):=(blk_cell BK184.out 4).trans rfl
      have hfz11_0:=blk_frozen BK184.out 0
      have hfz11_1:=blk_frozen BK184.out 1
      have hfz11_2:=blk_frozen BK184.out 2
      have hfz11_3:=blk_frozen BK184.out 3
      have hfz11_4:=blk_frozen BK184.out 4
      go_wp2
      go_meet
      case rel=>exact ⟨_,(true),(by first|rfl|(simp;done)|(simp [*];done)),H',⟨by first|omega|exact Nat.le_refl _⟩,⟨by (with_reducible repeat (first|refine blk_drewN ?_ _|refine blk_drew ?_|refine blk_alloc ?_ _));exact BK184.out⟩,⟨by repeat (first|(with_reducible first|exact HB.out|apply below_alloc|apply pw_below_drewN|apply below_drew1|refine below_set ?_ GE184.out)|exact HB.out)⟩⟩
     ·rw [if_neg c10] at H
      have c10b0 : decide (3 < a0_1) = false:=decide_eq_false c10
      clear c10
      have H':=Aside0.mk H
      clear H
      have hcz12_0 : w3.cell? ⟨gb184,0,none⟩ = some (.int .i64 a0_0):=(blk_cell BK184.out 0).trans rfl
      have hcz12_1 : w3.cell? ⟨gb184,1,none⟩ = some (.int .i64 a0_1):=(blk_cell BK184.out 1).trans rfl
      have hcz12_2 : w3.cell? ⟨gb184,2,none⟩ = some (.slice A0_2 l0_2.length c0_2):=(blk_cell BK184.out 2).trans rfl
      have hcz12_3 : w3.cell? ⟨gb184,3,none⟩ = some (.int .u32 a0_3):=(blk_cell BK184.out 3).trans rfl
      have hcz12_4 : w3.cell? ⟨gb184,4,none⟩ = some (.int .u32 a0_4):=(blk_cell BK184.out 4).trans rfl
      have hfz12_0:=blk_frozen BK184.out 0
      have hfz12_1:=blk_frozen BK184.out 1
      have hfz12_2:=blk_frozen BK184.out 2
      have hfz12_3:=blk_frozen BK184.out 3
      have hfz12_4:=blk_frozen BK184.out 4
      go_wp2
      go_meet
      case rel=>exact ⟨_,(decide ((l0_2.length : Int) > 60)),(by first|rfl|(simp;done)|(simp [*];done)),H',⟨by first|omega|exact Nat.le_refl _⟩,⟨by (with_reducible repeat (first|refine blk_drewN ?_ _|refine blk_drew ?_|refine blk_alloc ?_ _));exact BK184.out⟩,⟨by repeat (first|(with_reducible first|exact HB.out|apply below_alloc|apply pw_below_drewN|apply below_drew1|refine below_set ?_ GE184.out)|exact HB.out)⟩⟩
 case rest =>
  clear HC2
  try clear c1
  try clear p2
  try clear c4
  try clear c4b0
  try clear c6
  try clear c6b0
  try clear c8
  try clear c8b0
  try clear c10
  try clear c10b0
  try clear hcz11_0
  try clear hcz11_1
  try clear hcz11_2
  try clear hcz11_3
  try clear hcz11_4
  try clear hcz12_0
  try clear hcz12_1
  try clear hcz12_2
  try clear hcz12_3
  try clear hcz12_4
  try clear hcz5_0
  try clear hcz5_1
  try clear hcz5_2
  try clear hcz5_3
  try clear hcz5_4
  try clear hcz7_0
  try clear hcz7_1
  try clear hcz7_2
  try clear hcz7_3
  try clear hcz7_4
  try clear hcz9_0
  try clear hcz9_1
  try clear hcz9_2
  try clear hcz9_3
  try clear hcz9_4
  try clear hfz11_0
  try clear hfz11_1
  try clear hfz11_2
  try clear hfz11_3
  try clear hfz11_4
  try clear hfz12_0
  try clear hfz12_1
  try clear hfz12_2
  try clear hfz12_3
  try clear hfz12_4
  try clear hfz5_0
  try clear hfz5_1
  try clear hfz5_2
  try clear hfz5_3
  try clear hfz5_4
  try clear hfz7_0
  try clear hfz7_1
  try clear hfz7_2
  try clear hfz7_3
  try clear hfz7_4
  try clear hfz9_0
  try clear hfz9_1
  try clear hfz9_2
  try clear hfz9_3
  try clear hfz9_4
  obtain ⟨kq,x28_1,rfl,HA,HJ1,BK184,HB⟩:=hcut
  cases kq with
  | zero=>exact absurd HA.out (by simp [net_Check.j0])
  | succ kj1 =>
   have H:=HA.out
   clear HA
   simp only [net_Check.j0] at H
   by_cases c13 : x28_1 = true
   ·subst c13
    have H1 : (some 1) = some r:=by rw [if_pos rfl] at H;exact H
    clear H
    have H:=H1
    clear H1
    obtain rfl:=Option.some.inj H
    go_wp2
    go_ret
    exact ⟨by first|rfl|(simp [errW_none,errW_some] <;> rfl)|(simp [*,errW_none,errW_some] <;> rfl),by repeat (first|(with_reducible first|exact HB.out|apply below_alloc|apply pw_below_drewN|apply below_drew1|refine below_set ?_ GE184.out)|exact HB.out)⟩
   ·replace c13:=Bool.eq_false_iff.mpr c13
    subst c13
    have H1 : (net_Check.l0 kj1 l0_2 (l0_2.length : Int) 0 a0_0 a0_1 l0_2 a0_3 a0_4) = some r:=by rw [if_neg (show ¬ (false = true) by decide)] at H;exact H
    clear H
    have H:=H1
    clear H1
    have H':=Aside0.mk H
    clear H
    have hcz14_0 : wc.cell? ⟨gb184,0,none⟩ = some (.int .i64 a0_0):=(blk_cell BK184.out 0).trans rfl
    have hcz14_1 : wc.cell? ⟨gb184,1,none⟩ = some (.int .i64 a0_1):=(blk_cell BK184.out 1).trans rfl
    have hcz14_2 : wc.cell? ⟨gb184,2,none⟩ = some (.slice A0_2 l0_2.length c0_2):=(blk_cell BK184.out 2).trans rfl
    have hcz14_3 : wc.cell? ⟨gb184,3,none⟩ = some (.int .u32 a0_3):=(blk_cell BK184.out 3).trans rfl
    have hcz14_4 : wc.cell? ⟨gb184,4,none⟩ = some (.int .u32 a0_4):=(blk_cell BK184.out 4).trans rfl
    have hfz14_0:=blk_frozen BK184.out 0
    have hfz14_1:=blk_frozen BK184.out 1
    have hfz14_2:=blk_frozen BK184.out 2
    have hfz14_3:=blk_frozen BK184.out 3
    have hfz14_4:=blk_frozen BK184.out 4
    go_wp2
    go_loopg [32] kj1 (fun kq v32 w'=>∃ (x32_2 : Int),v32 = .int .i64 x32_2 ∧ Aside0 (net_Check.l0 kq l0_2 (l0_2.length : Int) x32_2 a0_0 a0_1 l0_2 a0_3 a0_4 = some r) ∧ Aside0 (kq ≤ kj1) ∧ Aside0 (w'.heap[gb184]? = some (.cells #[.int .i64 a0_0,.int .i64 a0_1,(.slice A0_2 l0_2.length c0_2),.int .u32 a0_3,.int .u32 a0_4] 35 (0,0))) ∧ Aside0 (Below w.heap.size w w'))
    case atStart=>exact ⟨(0),(by first|rfl|(simp;done)|(simp [*];done)),H',⟨Nat.le_refl _⟩,⟨by (with_reducible repeat (first|refine blk_drewN ?_ _|refine blk_drew ?_|refine blk_alloc ?_ _));exact BK184.out⟩,⟨by repeat (first|(with_reducible first|exact HB.out|apply below_alloc|apply pw_below_drewN|apply below_drew1|refine below_set ?_ GE184.out)|exact HB.out)⟩⟩
    case round =>
     clear H'
     try clear c1
     try clear p2
     try clear c4
     try clear c4b0
     try clear c6
     try clear c6b0
     try clear c8
     try clear c8b0
     try clear c10
     try clear c10b0
     try clear c13
     try clear hcz11_0
     try clear hcz11_1
     try clear hcz11_2
     try clear hcz11_3
     try clear hcz11_4
     try clear hcz12_0
     try clear hcz12_1
     try clear hcz12_2
     try clear hcz12_3
     try clear hcz12_4
     try clear hcz14_0
     try clear hcz14_1
     try clear hcz14_2
     try clear hcz14_3
     try clear hcz14_4
     try clear hcz5_0
     try clear hcz5_1
     try clear hcz5_2
     try clear hcz5_3
     try clear hcz5_4
     try clear hcz7_0
     try clear hcz7_1
     try clear hcz7_2
     try clear hcz7_3
     try clear hcz7_4
     try clear hcz9_0
     try clear hcz9_1
     try clear hcz9_2
     try clear hcz9_3
     try clear hcz9_4
     try clear hfz11_0
     try clear hfz11_1
     try clear hfz11_2
     try clear hfz11_3
     try clear hfz11_4
     try clear hfz12_0
     try clear hfz12_1
     try clear hfz12_2
     try clear hfz12_3
     try clear hfz12_4
     try clear hfz14_0
     try clear hfz14_1
     try clear hfz14_2
     try clear hfz14_3
     try clear hfz14_4
     try clear hfz5_0
     try clear hfz5_1
     try clear hfz5_2
     try clear hfz5_3
     try clear hfz5_4
     try clear hfz7_0
     try clear hfz7_1
     try clear hfz7_2
     try clear hfz7_3
     try clear hfz7_4
     try clear hfz9_0
     try clear hfz9_1
     try clear hfz9_2
     try clear hfz9_3
     try clear hfz9_4
     try clear p2
     obtain ⟨x32_2,rfl,HA,HK2,BK184,HB⟩:=hrel
     cases gk with
     | zero=>exact absurd HA.out (by simp [net_Check.l0])
     | succ k2 =>
      have H:=HA.out
      clear HA
      simp only [net_Check.l0] at H
      by_cases c15 : x32_2 < (l0_2.length : Int)
      ·rw [if_pos c15] at H
       have c15b0 : decide (x32_2 < (l0_2.length : Int)) = true:=decide_eq_true c15
       clear c15
       by_cases c16 : 0 ≤ x32_2
       ·rw [if_pos c16] at H
        have c16b0 : decide (0 ≤ x32_2) = true:=decide_eq_true c16
        clear c16
        by_cases c17 : x32_2 < (l0_2.length : Int)
        ·rw [if_pos c17] at H
         have c17b0 : decide (x32_2 < (l0_2.length : Int)) = true:=decide_eq_true c17
         clear c17
         obtain ⟨ji18,hji18⟩ : ∃ j_ : Int,(mn ((rd_T42 l0_2 x32_2).f0) ((rd_T42 l0_2 x32_2).f2)) = j_:=⟨_,rfl⟩
         replace H : (if (ji18) < 0 then (some 2) else (if (mx ((rd_T42 l0_2 x32_2).f0) ((rd_T42 l0_2 x32_2).f2)) ≥ a0_0 then (some 2) else (if ((rd_T42 l0_2 x32_2).f1) < (-1) then (some 2) else (if ((rd_T42 l0_2 x32_2).f1) ≥ a0_1 then (some 2) else (net_Check.l0 k2 l0_2 (l0_2.length : Int) (wrap64 (x32_2 + 1)) a0_0 a0_1 l0_2 a0_3 a0_4))))) = some r:=by first|(rw [hji18] at H;exact H)|(simp only [hji18] at H ⊢;exact H)
         have hji18_ : (if ((rd_T42 l0_2 x32_2).f2) < ((rd_T42 l0_2 x32_2).f0) then ((rd_T42 l0_2 x32_2).f2) else ((rd_T42 l0_2 x32_2).f0)) = ji18:=hji18
         by_cases c19 : (ji18) < 0
         ·rw [if_pos c19] at H
          have c19b0 : decide ((ji18) < 0) = true:=decide_eq_true c19
          clear c19
          obtain rfl:=Option.some.inj H
          have p185 : 0 ≤ (x32_2 : Int):=of_decide_eq_true (by first|(with_reducible assumption)|assumption)
          have q185 : x32_2 < (l0_2.length : Int):=of_decide_eq_true (by first|(with_reducible assumption)|assumption)
          obtain ⟨ad185,e185,hx185_0,hx185_1,hx185_2⟩:=at_T42 HR0_2.out x32_2 p185 q185
          cases e185
          replace hx185_0:=(HB.out.cell (World.block_lt_of_cell? w _ hx185_0)).trans hx185_0
          replace hx185_1:=(HB.out.cell (World.block_lt_of_cell? w _ hx185_1)).trans hx185_1
          replace hx185_2:=(HB.out.cell (World.block_lt_of_cell? w _ hx185_2)).trans hx185_2
          replace p185:=eq_true p185
          replace q185:=eq_true q185
          go_wp2_with (first|((with_reducible refine gate_dst (N:=4) rfl ?_);(try (refine gate_guard (by rfl) ?_;dsimp only));refine box_event ?hg (N:=4) ?hd (cs:=#[.int .i64 0,.int .i64 0,.int .i64 0]) (t:=42) ?hr ?_;(case hd=>rfl);(case hg=>rfl);(case hr=>first|(go_simp;done)|(go_simp;rfl));intro gb186 hg w20 hbox hb;have n0_:=Aside0.mk (blk_below (g:=gb184) (o:=.cells #[.int .i64 a0_0,.int .i64 a0_1,.slice (some ad185) l0_2.length c0_2,.int .u32 a0_3,.int .u32 a0_4] 35 (0,0)) (by (with_reducible repeat (first|refine blk_drewN ?_ _|refine blk_drew ?_|refine blk_alloc ?_ _));exact BK184.out) hb);have n1_:=Aside0.mk (below_step (by repeat (first|(with_reducible first|exact HB.out|apply below_alloc|apply pw_below_drewN|apply below_drew1|refine below_set ?_ GE184.out)|exact HB.out)) hb);have n2_:=Aside0.mk (hbox);have n3_:=Aside0.mk ((by rw [hg];exact (below_size (by repeat (first|(with_reducible first|exact HB.out|apply below_alloc|apply pw_below_drewN|apply below_drew1|refine below_set ?_ GE184.out)|exact HB.out))) : w.heap.size ≤ gb186));have n4_:=Aside0.mk ((by rw [hg];exact (below_size (by repeat (first|(with_reducible first|exact HB.out|apply below_alloc|apply pw_below_drewN|apply below_drew1|refine below_set ?_ GE184.out)|exact HB.out))) : w.heap.size ≤ gb186));have n5_:=Aside0.mk ((by rw [hg];exact Nat.ne_of_lt (blk_lt (g:=gb184) (o:=.cells #[.int .i64 a0_0,.int .i64 a0_1,.slice (some ad185) l0_2.length c0_2,.int .u32 a0_3,.int .u32 a0_4] 35 (0,0)) (by (with_reducible repeat (first|refine blk_drewN ?_ _|refine blk_drew ?_|refine blk_alloc ?_ _));exact BK184.out)) : gb184 ≠ gb186));have n6_:=Aside0.mk ((by rw [hg];exact Nat.ne_of_gt (blk_lt (g:=gb184) (o:=.cells #[.int .i64 a0_0,.int .i64 a0_1,.slice (some ad185) l0_2.length c0_2,.int .u32 a0_3,.int .u32 a0_4] 35 (0,0)) (by (with_reducible repeat (first|refine blk_drewN ?_ _|refine blk_drew ?_|refine blk_alloc ?_ _));exact BK184.out)) : gb186 ≠ gb184));clear BK184;clear HB;have BK184:=n0_;have HB:=n1_;have BK186:=n2_;have GW186:=n3_;have GE186:=n4_;have NB184_186:=n5_;have NB186_184:=n6_;clear n0_ n1_ n2_ n3_ n4_ n5_ n6_;clear hb hbox hg;have hnb21:=NB186_184.out;have hnc21:=NB184_186.out;have hcz22_0 : w20.cell? ⟨gb186,0,none⟩ = some (.int .i64 0):=(blk_cell BK186.out 0).trans rfl;have hcz22_1 : w20.cell? ⟨gb186,1,none⟩ = some (.int .i64 0):=(blk_cell BK186.out 1).trans rfl;have hcz22_2 : w20.cell? ⟨gb186,2,none⟩ = some (.int .i64 0):=(blk_cell BK186.out 2).trans rfl;have hfz22_0:=blk_frozen BK186.out 0;have hfz22_1:=blk_frozen BK186.out 1;have hfz22_2:=blk_frozen BK186.out 2))
          go_ret
          exact ⟨by first|rfl|(simp [errW_none,errW_some] <;> rfl)|(simp only [← hji18];first|rfl|(simp [errW_none,errW_some] <;> rfl))|(simp [*,errW_none,errW_some] <;> rfl),by repeat (first|(with_reducible first|exact HB.out|apply below_alloc|apply pw_below_drewN|apply below_drew1|refine below_set ?_ GE184.out|refine below_set ?_ GE186.out)|exact HB.out)⟩
         ·rw [if_neg c19] at H
          have c19b0 : decide ((ji18) < 0) = false:=decide_eq_false c19
          clear c19
          obtain ⟨ji23,hji23⟩ : ∃ j_ : Int,(mx ((rd_T42 l0_2 x32_2).f0) ((rd_T42 l0_2 x32_2).f2)) = j_:=⟨_,rfl⟩
          replace H : (if (ji23) ≥ a0_0 then (some 2) else (if ((rd_T42 l0_2 x32_2).f1) < (-1) then (some 2) else (if ((rd_T42 l0_2 x32_2).f1) ≥ a0_1 then (some 2) else (net_Check.l0 k2 l0_2 (l0_2.length : Int) (wrap64 (x32_2 + 1)) a0_0 a0_1 l0_2 a0_3 a0_4)))) = some r:=by first|(rw [hji23] at H;exact H)|(simp only [hji23] at H ⊢;exact H)
          have hji23_ : (if ((rd_T42 l0_2 x32_2).f0) < ((rd_T42 l0_2 x32_2).f2) then ((rd_T42 l0_2 x32_2).f2) else ((rd_T42 l0_2 x32_2).f0)) = ji23:=hji23
          by_cases c24 : (ji23) ≥ a0_0
          ·rw [if_pos c24] at H
           have c24b0 : decide (a0_0 ≤ (ji23)) = true:=decide_eq_true c24
           clear c24
           obtain rfl:=Option.some.inj H
           have p185 : 0 ≤ (x32_2 : Int):=of_decide_eq_true (by first|(with_reducible assumption)|assumption)
           have q185 : x32_2 < (l0_2.length : Int):=of_decide_eq_true (by first|(with_reducible assumption)|assumption)
           obtain ⟨ad185,e185,hx185_0,hx185_1,hx185_2⟩:=at_T42 HR0_2.out x32_2 p185 q185
           cases e185
           replace hx185_0:=(HB.out.cell (World.block_lt_of_cell? w _ hx185_0)).trans hx185_0
           replace hx185_1:=(HB.out.cell (World.block_lt_of_cell? w _ hx185_1)).trans hx185_1
           replace hx185_2:=(HB.out.cell (World.block_lt_of_cell? w _ hx185_2)).trans hx185_2
           replace p185:=eq_true p185
           replace q185:=eq_true q185
           go_wp2_with (first|((with_reducible refine gate_dst (N:=4) rfl ?_);(try (refine gate_guard (by rfl) ?_;dsimp only));refine box_event ?hg (N:=4) ?hd (cs:=#[.int .i64 0,.int .i64 0,.int .i64 0]) (t:=42) ?hr ?_;(case hd=>rfl);(case hg=>rfl);(case hr=>first|(go_simp;done)|(go_simp;rfl));intro gb186 hg w25 hbox hb;have n0_:=Aside0.mk (blk_below (g:=gb184) (o:=.cells #[.int .i64 a0_0,.int .i64 a0_1,.slice (some ad185) l0_2.length c0_2,.int .u32 a0_3,.int .u32 a0_4] 35 (0,0)) (by (with_reducible repeat (first|refine blk_drewN ?_ _|refine blk_drew ?_|refine blk_alloc ?_ _));exact BK184.out) hb);have n1_:=Aside0.mk (below_step (by repeat (first|(with_reducible first|exact HB.out|apply below_alloc|apply pw_below_drewN|apply below_drew1|refine below_set ?_ GE184.out)|exact HB.out)) hb);have n2_:=Aside0.mk (hbox);have n3_:=Aside0.mk ((by rw [hg];exact (below_size (by repeat (first|(with_reducible first|exact HB.out|apply below_alloc|apply pw_below_drewN|apply below_drew1|refine below_set ?_ GE184.out)|exact HB.out))) : w.heap.size ≤ gb186));have n4_:=Aside0.mk ((by rw [hg];exact (below_size (by repeat (first|(with_reducible first|exact HB.out|apply below_alloc|apply pw_below_drewN|apply below_drew1|refine below_set ?_ GE184.out)|exact HB.out))) : w.heap.size ≤ gb186));have n5_:=Aside0.mk ((by rw [hg];exact Nat.ne_of_lt (blk_lt (g:=gb184) (o:=.cells #[.int .i64 a0_0,.int .i64 a0_1,.slice (some ad185) l0_2.length c0_2,.int .u32 a0_3,.int .u32 a0_4] 35 (0,0)) (by (with_reducible repeat (first|refine blk_drewN ?_ _|refine blk_drew ?_|refine blk_alloc ?_ _));exact BK184.out)) : gb184 ≠ gb186));have n6_:=Aside0.mk ((by rw [hg];exact Nat.ne_of_gt (blk_lt (g:=gb184) (o:=.cells #[.int .i64 a0_0,.int .i64 a0_1,.slice (some ad185) l0_2.length c0_2,.int .u32 a0_3,.int .u32 a0_4] 35 (0,0)) (by (with_reducible repeat (first|refine blk_drewN ?_ _|refine blk_drew ?_|refine blk_alloc ?_ _));exact BK184.out)) : gb186 ≠ gb184));clear BK184;clear HB;have BK184:=n0_;have HB:=n1_;have BK186:=n2_;have GW186:=n3_;have GE186:=n4_;have NB184_186:=n5_;have NB186_184:=n6_;clear n0_ n1_ n2_ n3_ n4_ n5_ n6_;clear hb hbox hg;have hnb26:=NB186_184.out;have hnc26:=NB184_186.out;have hcz27_0 : w25.cell? ⟨gb186,0,none⟩ = some (.int .i64 0):=(blk_cell BK186.out 0).trans rfl;have hcz27_1 : w25.cell? ⟨gb186,1,none⟩ = some (.int .i64 0):=(blk_cell BK186.out 1).trans rfl;have hcz27_2 : w25.cell? ⟨gb186,2,none⟩ = some (.int .i64 0):=(blk_cell BK186.out 2).trans rfl;have hfz27_0:=blk_frozen BK186.out 0;have hfz27_1:=blk_frozen BK186.out 1;have hfz27_2:=blk_frozen BK186.out 2;have hcz28_0 : w25.cell? ⟨gb184,0,none⟩ = some (.int .i64 a0_0):=(blk_cell BK184.out 0).trans rfl;have hcz28_1 : w25.cell? ⟨gb184,1,none⟩ = some (.int .i64 a0_1):=(blk_cell BK184.out 1).trans rfl;have hcz28_2 : w25.cell? ⟨gb184,2,none⟩ = some (.slice (some ad185) l0_2.length c0_2):=(blk_cell BK184.out 2).trans rfl;have hcz28_3 : w25.cell? ⟨gb184,3,none⟩ = some (.int .u32 a0_3):=(blk_cell BK184.out 3).trans rfl;have hcz28_4 : w25.cell? ⟨gb184,4,none⟩ = some (.int .u32 a0_4):=(blk_cell BK184.out 4).trans rfl;have hfz28_0:=blk_frozen BK184.out 0;have hfz28_1:=blk_frozen BK184.out 1;have hfz28_2:=blk_frozen BK184.out 2;have hfz28_3:=blk_frozen BK184.out 3;have hfz28_4:=blk_frozen BK184.out 4))
           go_ret
           exact ⟨by first|rfl|(simp [errW_none,errW_some] <;> rfl)|(simp only [← hji18,← hji23];first|rfl|(simp [errW_none,errW_some] <;> rfl))|(simp [*,errW_none,errW_some] <;> rfl),by repeat (first|(with_reducible first|exact HB.out|apply below_alloc|apply pw_below_drewN|apply below_drew1|refine below_set ?_ GE184.out|refine below_set ?_ GE186.out)|exact HB.out)⟩
          ·rw [if_neg c24] at H
           have c24b0 : decide (a0_0 ≤ (ji23)) = false:=decide_eq_false c24
           clear c24
           by_cases c29 : ((rd_T42 l0_2 x32_2).f1) < (-1)
           ·rw [if_pos c29] at H
            have c29b0 : decide (((rd_T42 l0_2 x32_2).f1) < (-1)) = true:=decide_eq_true c29
            clear c29
            obtain rfl:=Option.some.inj H
            have p185 : 0 ≤ (x32_2 : Int):=of_decide_eq_true (by first|(with_reducible assumption)|assumption)
            have q185 : x32_2 < (l0_2.length : Int):=of_decide_eq_true (by first|(with_reducible assumption)|assumption)
            obtain ⟨ad185,e185,hx185_0,hx185_1,hx185_2⟩:=at_T42 HR0_2.out x32_2 p185 q185
            cases e185
            replace hx185_0:=(HB.out.cell (World.block_lt_of_cell? w _ hx185_0)).trans hx185_0
            replace hx185_1:=(HB.out.cell (World.block_lt_of_cell? w _ hx185_1)).trans hx185_1
            replace hx185_2:=(HB.out.cell (World.block_lt_of_cell? w _ hx185_2)).trans hx185_2
            replace p185:=eq_true p185
            replace q185:=eq_true q185
            go_wp2_with (first|((with_reducible refine gate_dst (N:=4) rfl ?_);(try (refine gate_guard (by rfl) ?_;dsimp only));refine box_event ?hg (N:=4) ?hd (cs:=#[.int .i64 0,.int .i64 0,.int .i64 0]) (t:=42) ?hr ?_;(case hd=>rfl);(case hg=>rfl);(case hr=>first|(go_simp;done)|(go_simp;rfl));intro gb186 hg w30 hbox hb;have n0_:=Aside0.mk (blk_below (g:=gb184) (o:=.cells #[.int .i64 a0_0,.int .i64 a0_1,.slice (some ad185) l0_2.length c0_2,.int .u32 a0_3,.int .u32 a0_4] 35 (0,0)) (by (with_reducible repeat (first|refine blk_drewN ?_ _|refine blk_drew ?_|refine blk_alloc ?_ _));exact BK184.out) hb);have n1_:=Aside0.mk (below_step (by repeat (first|(with_reducible first|exact HB.out|apply below_alloc|apply pw_below_drewN|apply below_drew1|refine below_set ?_ GE184.out)|exact HB.out)) hb);have n2_:=Aside0.mk (hbox);have n3_:=Aside0.mk ((by rw [hg];exact (below_size (by repeat (first|(with_reducible first|exact HB.out|apply below_alloc|apply pw_below_drewN|apply below_drew1|refine below_set ?_ GE184.out)|exact HB.out))) : w.heap.size ≤ gb186));have n4_:=Aside0.mk ((by rw [hg];exact (below_size (by repeat (first|(with_reducible first|exact HB.out|apply below_alloc|apply pw_below_drewN|apply below_drew1|refine below_set ?_ GE184.out)|exact HB.out))) : w.heap.size ≤ gb186));have n5_:=Aside0.mk ((by rw [hg];exact Nat.ne_of_lt (blk_lt (g:=gb184) (o:=.cells #[.int .i64 a0_0,.int .i64 a0_1,.slice (some ad185) l0_2.length c0_2,.int .u32 a0_3,.int .u32 a0_4] 35 (0,0)) (by (with_reducible repeat (first|refine blk_drewN ?_ _|refine blk_drew ?_|refine blk_alloc ?_ _));exact BK184.out)) : gb184 ≠ gb186));have n6_:=Aside0.mk ((by rw [hg];exact Nat.ne_of_gt (blk_lt (g:=gb184) (o:=.cells #[.int .i64 a0_0,.int .i64 a0_1,.slice (some ad185) l0_2.length c0_2,.int .u32 a0_3,.int .u32 a0_4] 35 (0,0)) (by (with_reducible repeat (first|refine blk_drewN ?_ _|refine blk_drew ?_|refine blk_alloc ?_ _));exact BK184.out)) : gb186 ≠ gb184));clear BK184;clear HB;have BK184:=n0_;have HB:=n1_;have BK186:=n2_;have GW186:=n3_;have GE186:=n4_;have NB184_186:=n5_;have NB186_184:=n6_;clear n0_ n1_ n2_ n3_ n4_ n5_ n6_;clear hb hbox hg;have hnb31:=NB186_184.out;have hnc31:=NB184_186.out;have hcz32_0 : w30.cell? ⟨gb186,0,none⟩ = some (.int .i64 0):=(blk_cell BK186.out 0).trans rfl;have hcz32_1 : w30.cell? ⟨gb186,1,none⟩ = some (.int .i64 0):=(blk_cell BK186.out 1).trans rfl;have hcz32_2 : w30.cell? ⟨gb186,2,none⟩ = some (.int .i64 0):=(blk_cell BK186.out 2).trans rfl;have hfz32_0:=blk_frozen BK186.out 0;have hfz32_1:=blk_frozen BK186.out 1;have hfz32_2:=blk_frozen BK186.out 2;have hcz33_0 : w30.cell? ⟨gb184,0,none⟩ = some (.int .i64 a0_0):=(blk_cell BK184.out 0).trans rfl;have hcz33_1 : w30.cell? ⟨gb184,1,none⟩ = some (.int .i64 a0_1):=(blk_cell BK184.out 1).trans rfl;have hcz33_2 : w30.cell? ⟨gb184,2,none⟩ = some (.slice (some ad185) l0_2.length c0_2):=(blk_cell BK184.out 2).trans rfl;have hcz33_3 : w30.cell? ⟨gb184,3,none⟩ = some (.int .u32 a0_3):=(blk_cell BK184.out 3).trans rfl;have hcz33_4 : w30.cell? ⟨gb184,4,none⟩ = some (.int .u32 a0_4):=(blk_cell BK184.out 4).trans rfl;have hfz33_0:=blk_frozen BK184.out 0;have hfz33_1:=blk_frozen BK184.out 1;have hfz33_2:=blk_frozen BK184.out 2;have hfz33_3:=blk_frozen BK184.out 3;have hfz33_4:=blk_frozen BK184.out 4))
            go_ret
            exact ⟨by first|rfl|(simp [errW_none,errW_some] <;> rfl)|(simp only [← hji18,← hji23];first|rfl|(simp [errW_none,errW_some] <;> rfl))|(simp [*,errW_none,errW_some] <;> rfl),by repeat (first|(with_reducible first|exact HB.out|apply below_alloc|apply pw_below_drewN|apply below_drew1|refine below_set ?_ GE184.out|refine below_set ?_ GE186.out)|exact HB.out)⟩
           ·rw [if_neg c29] at H
            have c29b0 : decide (((rd_T42 l0_2 x32_2).f1) < (-1)) = false:=decide_eq_false c29
            clear c29
            by_cases c34 : ((rd_T42 l0_2 x32_2).f1) ≥ a0_1
            ·rw [if_pos c34] at H
             have c34b0 : decide (a0_1 ≤ ((rd_T42 l0_2 x32_2).f1)) = true:=decide_eq_true c34
             clear c34
             obtain rfl:=Option.some.inj H
             have p185 : 0 ≤ (x32_2 : Int):=of_decide_eq_true (by first|(with_reducible assumption)|assumption)
             have q185 : x32_2 < (l0_2.length : Int):=of_decide_eq_true (by first|(with_reducible assumption)|assumption)
             obtain ⟨ad185,e185,hx185_0,hx185_1,hx185_2⟩:=at_T42 HR0_2.out x32_2 p185 q185
             cases e185
             replace hx185_0:=(HB.out.cell (World.block_lt_of_cell? w _ hx185_0)).trans hx185_0
             replace hx185_1:=(HB.out.cell (World.block_lt_of_cell? w _ hx185_1)).trans hx185_1
             replace hx185_2:=(HB.out.cell (World.block_lt_of_cell? w _ hx185_2)).trans hx185_2
             replace p185:=eq_true p185
             replace q185:=eq_true q185
             go_wp2_with (first|((with_reducible refine gate_dst (N:=4) rfl ?_);(try (refine gate_guard (by rfl) ?_;dsimp only));refine box_event ?hg (N:=4) ?hd (cs:=#[.int .i64 0,.int .i64 0,.int .i64 0]) (t:=42) ?hr ?_;(case hd=>rfl);(case hg=>rfl);(case hr=>first|(go_simp;done)|(go_simp;rfl));intro gb186 hg w35 hbox hb;have n0_:=Aside0.mk (blk_below (g:=gb184) (o:=.cells #[.int .i64 a0_0,.int .i64 a0_1,.slice (some ad185) l0_2.length c0_2,.int .u32 a0_3,.int .u32 a0_4] 35 (0,0)) (by (with_reducible repeat (first|refine blk_drewN ?_ _|refine blk_drew ?_|refine blk_alloc ?_ _));exact BK184.out) hb);have n1_:=Aside0.mk (below_step (by repeat (first|(with_reducible first|exact HB.out|apply below_alloc|apply pw_below_drewN|apply below_drew1|refine below_set ?_ GE184.out)|exact HB.out)) hb);have n2_:=Aside0.mk (hbox);have n3_:=Aside0.mk ((by rw [hg];exact (below_size (by repeat (first|(with_reducible first|exact HB.out|apply below_alloc|apply pw_below_drewN|apply below_drew1|refine below_set ?_ GE184.out)|exact HB.out))) : w.heap.size ≤ gb186));have n4_:=Aside0.mk ((by rw [hg];exact (below_size (by repeat (first|(with_reducible first|exact HB.out|apply below_alloc|apply pw_below_drewN|apply below_drew1|refine below_set ?_ GE184.out)|exact HB.out))) : w.heap.size ≤ gb186));have n5_:=Aside0.mk ((by rw [hg];exact Nat.ne_of_lt (blk_lt (g:=gb184) (o:=.cells #[.int .i64 a0_0,.int .i64 a0_1,.slice (some ad185) l0_2.length c0_2,.int .u32 a0_3,.int .u32 a0_4] 35 (0,0)) (by (with_reducible repeat (first|refine blk_drewN ?_ _|refine blk_drew ?_|refine blk_alloc ?_ _));exact BK184.out)) : gb184 ≠ gb186));have n6_:=Aside0.mk ((by rw [hg];exact Nat.ne_of_gt (blk_lt (g:=gb184) (o:=.cells #[.int .i64 a0_0,.int .i64 a0_1,.slice (some ad185) l0_2.length c0_2,.int .u32 a0_3,.int .u32 a0_4] 35 (0,0)) (by (with_reducible repeat (first|refine blk_drewN ?_ _|refine blk_drew ?_|refine blk_alloc ?_ _));exact BK184.out)) : gb186 ≠ gb184));clear BK184;clear HB;have BK184:=n0_;have HB:=n1_;have BK186:=n2_;have GW186:=n3_;have GE186:=n4_;have NB184_186:=n5_;have NB186_184:=n6_;clear n0_ n1_ n2_ n3_ n4_ n5_ n6_;clear hb hbox hg;have hnb36:=NB186_184.out;have hnc36:=NB184_186.out;have hcz37_0 : w35.cell? ⟨gb186,0,none⟩ = some (.int .i64 0):=(blk_cell BK186.out 0).trans rfl;have hcz37_1 : w35.cell? ⟨gb186,1,none⟩ = some (.int .i64 0):=(blk_cell BK186.out 1).trans rfl;have hcz37_2 : w35.cell? ⟨gb186,2,none⟩ = some (.int .i64 0):=(blk_cell BK186.out 2).trans rfl;have hfz37_0:=blk_frozen BK186.out 0;have hfz37_1:=blk_frozen BK186.out 1;have hfz37_2:=blk_frozen BK186.out 2;have hcz38_0 : w35.cell? ⟨gb184,0,none⟩ = some (.int .i64 a0_0):=(blk_cell BK184.out 0).trans rfl;have hcz38_1 : w35.cell? ⟨gb184,1,none⟩ = some (.int .i64 a0_1):=(blk_cell BK184.out 1).trans rfl;have hcz38_2 : w35.cell? ⟨gb184,2,none⟩ = some (.slice (some ad185) l0_2.length c0_2):=(blk_cell BK184.out 2).trans rfl;have hcz38_3 : w35.cell? ⟨gb184,3,none⟩ = some (.int .u32 a0_3):=(blk_cell BK184.out 3).trans rfl;have hcz38_4 : w35.cell? ⟨gb184,4,none⟩ = some (.int .u32 a0_4):=(blk_cell BK184.out 4).trans rfl;have hfz38_0:=blk_frozen BK184.out 0;have hfz38_1:=blk_frozen BK184.out 1;have hfz38_2:=blk_frozen BK184.out 2;have hfz38_3:=blk_frozen BK184.out 3;have hfz38_4:=blk_frozen BK184.out 4))
             go_ret
             exact ⟨by first|rfl|(simp [errW_none,errW_some] <;> rfl)|(simp only [← hji18,← hji23];first|rfl|(simp [errW_none,errW_some] <;> rfl))|(simp [*,errW_none,errW_some] <;> rfl),by repeat (first|(with_reducible first|exact HB.out|apply below_alloc|apply pw_below_drewN|apply below_drew1|refine below_set ?_ GE184.out|refine below_set ?_ GE186.out)|exact HB.out)⟩
            ·rw [if_neg c34] at H
             have c34b0 : decide (a0_1 ≤ ((rd_T42 l0_2 x32_2).f1)) = false:=decide_eq_false c34
             clear c34
             have H':=Aside0.mk H
             clear H
             have p185 : 0 ≤ (x32_2 : Int):=of_decide_eq_true (by first|(with_reducible assumption)|assumption)
             have q185 : x32_2 < (l0_2.length : Int):=of_decide_eq_true (by first|(with_reducible assumption)|assumption)
             obtain ⟨ad185,e185,hx185_0,hx185_1,hx185_2⟩:=at_T42 HR0_2.out x32_2 p185 q185
             cases e185
             replace hx185_0:=(HB.out.cell (World.block_lt_of_cell? w _ hx185_0)).trans hx185_0
             replace hx185_1:=(HB.out.cell (World.block_lt_of_cell? w _ hx185_1)).trans hx185_1
             replace hx185_2:=(HB.out.cell (World.block_lt_of_cell? w _ hx185_2)).trans hx185_2
             replace p185:=eq_true p185
             replace q185:=eq_true q185
             go_wp2_with (first|((with_reducible refine gate_dst (N:=4) rfl ?_);(try (refine gate_guard (by rfl) ?_;dsimp only));refine box_event ?hg (N:=4) ?hd (cs:=#[.int .i64 0,.int .i64 0,.int .i64 0]) (t:=42) ?hr ?_;(case hd=>rfl);(case hg=>rfl);(case hr=>first|(go_simp;done)|(go_simp;rfl));intro gb186 hg w39 hbox hb;have n0_:=Aside0.mk (blk_below (g:=gb184) (o:=.cells #[.int .i64 a0_0,.int .i64 a0_1,.slice (some ad185) l0_2.length c0_2,.int .u32 a0_3,.int .u32 a0_4] 35 (0,0)) (by (with_reducible repeat (first|refine blk_drewN ?_ _|refine blk_drew ?_|refine blk_alloc ?_ _));exact BK184.out) hb);have n1_:=Aside0.mk (below_step (by repeat (first|(with_reducible first|exact HB.out|apply below_alloc|apply pw_below_drewN|apply below_drew1|refine below_set ?_ GE184.out)|exact HB.out)) hb);have n2_:=Aside0.mk (hbox);have n3_:=Aside0.mk ((by rw [hg];exact (below_size (by repeat (first|(with_reducible first|exact HB.out|apply below_alloc|apply pw_below_drewN|apply below_drew1|refine below_set ?_ GE184.out)|exact HB.out))) : w.heap.size ≤ gb186));have n4_:=Aside0.mk ((by rw [hg];exact (below_size (by repeat (first|(with_reducible first|exact HB.out|apply below_alloc|apply pw_below_drewN|apply below_drew1|refine below_set ?_ GE184.out)|exact HB.out))) : w.heap.size ≤ gb186));have n5_:=Aside0.mk ((by rw [hg];exact Nat.ne_of_lt (blk_lt (g:=gb184) (o:=.cells #[.int .i64 a0_0,.int .i64 a0_1,.slice (some ad185) l0_2.length c0_2,.int .u32 a0_3,.int .u32 a0_4] 35 (0,0)) (by (with_reducible repeat (first|refine blk_drewN ?_ _|refine blk_drew ?_|refine blk_alloc ?_ _));exact BK184.out)) : gb184 ≠ gb186));have n6_:=Aside0.mk ((by rw [hg];exact Nat.ne_of_gt (blk_lt (g:=gb184) (o:=.cells #[.int .i64 a0_0,.int .i64 a0_1,.slice (some ad185) l0_2.length c0_2,.int .u32 a0_3,.int .u32 a0_4] 35 (0,0)) (by (with_reducible repeat (first|refine blk_drewN ?_ _|refine blk_drew ?_|refine blk_alloc ?_ _));exact BK184.out)) : gb186 ≠ gb184));clear BK184;clear HB;have BK184:=n0_;have HB:=n1_;have BK186:=n2_;have GW186:=n3_;have GE186:=n4_;have NB184_186:=n5_;have NB186_184:=n6_;clear n0_ n1_ n2_ n3_ n4_ n5_ n6_;clear hb hbox hg;have hnb40:=NB186_184.out;have hnc40:=NB184_186.out;have hcz41_0 : w39.cell? ⟨gb186,0,none⟩ = some (.int .i64 0):=(blk_cell BK186.out 0).trans rfl;have hcz41_1 : w39.cell? ⟨gb186,1,none⟩ = some (.int .i64 0):=(blk_cell BK186.out 1).trans rfl;have hcz41_2 : w39.cell? ⟨gb186,2,none⟩ = some (.int .i64 0):=(blk_cell BK186.out 2).trans rfl;have hfz41_0:=blk_frozen BK186.out 0;have hfz41_1:=blk_frozen BK186.out 1;have hfz41_2:=blk_frozen BK186.out 2;have hcz42_0 : w39.cell? ⟨gb184,0,none⟩ = some (.int .i64 a0_0):=(blk_cell BK184.out 0).trans rfl;have hcz42_1 : w39.cell? ⟨gb184,1,none⟩ = some (.int .i64 a0_1):=(blk_cell BK184.out 1).trans rfl;have hcz42_2 : w39.cell? ⟨gb184,2,none⟩ = some (.slice (some ad185) l0_2.length c0_2):=(blk_cell BK184.out 2).trans rfl;have hcz42_3 : w39.cell? ⟨gb184,3,none⟩ = some (.int .u32 a0_3):=(blk_cell BK184.out 3).trans rfl;have hcz42_4 : w39.cell? ⟨gb184,4,none⟩ = some (.int .u32 a0_4):=(blk_cell BK184.out 4).trans rfl;have hfz42_0:=blk_frozen BK184.out 0;have hfz42_1:=blk_frozen BK184.out 1;have hfz42_2:=blk_frozen BK184.out 2;have hfz42_3:=blk_frozen BK184.out 3;have hfz42_4:=blk_frozen BK184.out 4))
             first|go_roundg k2|((simp only [← hji18,← hji23]);go_roundg k2)
             case measure=>have:=HJ1.out;have:=HK2.out;omega
             case rel=>exact ⟨(wrap64 (x32_2 + 1)),(by first|rfl|(simp;done)|(simp [*];done)),(by first|exact H'|((simp only [hji18,hji23]);exact H')|(have h_:=H'.out;simp only [← hji18,← hji23] at h_ ⊢;exact ⟨h_⟩)),⟨by have:=HJ1.out;have:=HK2.out;omega⟩,⟨by (with_reducible repeat (first|refine blk_drewN ?_ _|refine blk_drew ?_|refine blk_alloc ?_ _));refine blk_far ?_ NB184_186.out _;(with_reducible repeat (first|refine blk_drewN ?_ _|refine blk_drew ?_|refine blk_alloc ?_ _));refine blk_far ?_ NB184_186.out _;(with_reducible repeat (first|refine blk_drewN ?_ _|refine blk_drew ?_|refine blk_alloc ?_ _));refine blk_far ?_ NB184_186.out _;(with_reducible repeat (first|refine blk_drewN ?_ _|refine blk_drew ?_|refine blk_alloc ?_ _));(first|exact BK184.out|(have h_:=BK184.out;simp only [← hji18,← hji23] at h_;exact h_))⟩,⟨by repeat (first|(with_reducible first|exact HB.out|apply below_alloc|apply pw_below_drewN|apply below_drew1|refine below_set ?_ GE184.out|refine below_set ?_ GE186.out)|exact HB.out)⟩⟩
        ·rw [if_neg c17] at H
         exact absurd H (by simp)
       ·rw [if_neg c16] at H
        exact absurd H (by simp)
      ·rw [if_neg c15] at H
       have c15b0 : decide (x32_2 < (l0_2.length : Int)) = false:=decide_eq_false c15
       clear c15
       by_cases c43 : 0 ≤ a0_0
       ·rw [if_pos c43] at H
        have c43b0:=eq_true c43
        have c43b1 : decide (0 ≤ a0_0) = true:=decide_eq_true c43
        clear c43
        obtain ⟨ji44,hji44⟩ : ∃ j_ : Int,(shr .u32 (Go.bits .or .u32 a0_3 a0_4) a0_0) = j_:=⟨_,rfl⟩
        replace H : (if (ji44) = 0 then (some 0) else (some 4)) = some r:=by first|(rw [hji44] at H;exact H)|(simp only [hji44] at H ⊢;exact H)
        have hji44_ : ((Go.bits .or .u32 a0_3 a0_4) / 2 ^ min a0_0.toNat 32) = ji44:=hji44
        have hji44z : a0_0 ≤ 32 → ((Go.bits .or .u32 a0_3 a0_4) / 2 ^ a0_0.toNat) = ji44:=shr_small hji44
        by_cases c45 : (ji44) = 0
        ·rw [if_pos c45] at H
         have c45b0 : ((ji44) == 0) = true:=beq_iff_eq.mpr c45
         have c45b1 : ((ji44) != 0) = false:=bne_eq_false_iff_eq.mpr c45
         clear c45
         obtain rfl:=Option.some.inj H
         have hcz46_0 : wr.cell? ⟨gb184,0,none⟩ = some (.int .i64 a0_0):=(blk_cell BK184.out 0).trans rfl
         have hcz46_1 : wr.cell? ⟨gb184,1,none⟩ = some (.int .i64 a0_1):=(blk_cell BK184.out 1).trans rfl
         have hcz46_2 : wr.cell? ⟨gb184,2,none⟩ = some (.slice A0_2 l0_2.length c0_2):=(blk_cell BK184.out 2).trans rfl
         have hcz46_3 : wr.cell? ⟨gb184,3,none⟩ = some (.int .u32 a0_3):=(blk_cell BK184.out 3).trans rfl
         have hcz46_4 : wr.cell? ⟨gb184,4,none⟩ = some (.int .u32 a0_4):=(blk_cell BK184.out 4).trans rfl
         have hfz46_0:=blk_frozen BK184.out 0
         have hfz46_1:=blk_frozen BK184.out 1
         have hfz46_2:=blk_frozen BK184.out 2
         have hfz46_3:=blk_frozen BK184.out 3
         have hfz46_4:=blk_frozen BK184.out 4
         go_wp2
         go_ret
         exact ⟨by first|rfl|(simp [errW_none,errW_some] <;> rfl)|(simp only [← hji44];first|rfl|(simp [errW_none,errW_some] <;> rfl))|(simp [*,errW_none,errW_some] <;> rfl),by repeat (first|(with_reducible first|exact HB.out|apply below_alloc|apply pw_below_drewN|apply below_drew1|refine below_set ?_ GE184.out)|exact HB.out)⟩
        ·rw [if_neg c45] at H
         have c45b0 : ((ji44) == 0) = false:=beq_eq_false_iff_ne.mpr c45
         have c45b1 : ((ji44) != 0) = true:=bne_iff_ne.mpr c45
         obtain rfl:=Option.some.inj H
         have hcz47_0 : wr.cell? ⟨gb184,0,none⟩ = some (.int .i64 a0_0):=(blk_cell BK184.out 0).trans rfl
         have hcz47_1 : wr.cell? ⟨gb184,1,none⟩ = some (.int .i64 a0_1):=(blk_cell BK184.out 1).trans rfl
         have hcz47_2 : wr.cell? ⟨gb184,2,none⟩ = some (.slice A0_2 l0_2.length c0_2):=(blk_cell BK184.out 2).trans rfl
         have hcz47_3 : wr.cell? ⟨gb184,3,none⟩ = some (.int .u32 a0_3):=(blk_cell BK184.out 3).trans rfl
         have hcz47_4 : wr.cell? ⟨gb184,4,none⟩ = some (.int .u32 a0_4):=(blk_cell BK184.out 4).trans rfl
         have hfz47_0:=blk_frozen BK184.out 0
         have hfz47_1:=blk_frozen BK184.out 1
         have hfz47_2:=blk_frozen BK184.out 2
         have hfz47_3:=blk_frozen BK184.out 3
         have hfz47_4:=blk_frozen BK184.out 4
         go_wp2
         go_ret
         exact ⟨by first|rfl|(simp [errW_none,errW_some] <;> rfl)|(simp only [← hji44];first|rfl|(simp [errW_none,errW_some] <;> rfl))|(simp [*,errW_none,errW_some] <;> rfl),by repeat (first|(with_reducible first|exact HB.out|apply below_alloc|apply pw_below_drewN|apply below_drew1|refine below_set ?_ GE184.out)|exact HB.out)⟩
       ·rw [if_neg c43] at H
        exact absurd H (by simp)
end Go.Proofs.Ytkalcljgcigdgaa.GS
