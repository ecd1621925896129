-- Written by ext.py, a program of this session.
import Derived.Test.YtlkeemcapemkiaaGA0
namespace Go.Proofs.Ytlkeemcapemkiaa.GA
open Go.RowKit Go.Proofs.YtlkeemcapemkiaaW.PrintWords Go.Proofs.YtlkeemcapemkiaaW.PrintLast Go.Proofs.YtlkeemcapemkiaaW.PrintMore
attribute [local go_sem] max2_int min2_int max_two min_two max_three min_three max_four min_four cellIs_set   -- for this text's walks alone
set_option linter.unusedVariables false
set_option linter.unusedSimpArgs false
/-! ### turner_write: function 10 -/
def turner_write.l0 : Nat → Int → List Int → List Int → Int → Int → Int → Int → Int → List (List Int) → List (List (List Int)) → Int → Option (List Int × Int)
 | 0,_,_,_,_,_,_,_,_,_,_,_=>none
 | k + 1,x1,x8,x11,x12,x13,x123000,x123001,x123002,x123003,x123004,x123005=>if x13 < x12 then (if 0 ≤ x13 then (if x13 < (x11.length : Int) then (if 0 ≤ x1 then (if x1 < (x123004.length : Int) then (if 0 ≤ (rd x11 x13) then (if (rd x11 x13) < ((rd_L2 x123004 x1).length : Int) then (if x8.length + (rd_L1 (rd_L2 x123004 x1) (rd x11 x13)).length < 17592186044416 then (if x1 < (x123003.length : Int) then (if (rd x11 x13) < ((rd_L1 x123003 x1).length : Int) then (turner_write.l0 k (rd (rd_L1 x123003 x1) (rd x11 x13)) (x8 ++ (rd_L1 (rd_L2 x123004 x1) (rd x11 x13))) x11 x12 (wrap64 (x13 + 1)) x123000 x123001 x123002 x123003 x123004 x123005) else (none)) else (none)) else (none)) else (none)) else (none)) else (none)) else (none)) else (none)) else (none)) else (some (x8,x1))
def turner_write.f (k : Nat) (a0_0 : Int) (a0_1 : Int) (a0_2 : Int) (l0_3 : List (List Int)) (l0_4 : List (List (List Int))) (a0_5 : Int) (a1 : Int) (l2 : List Int) : Option (List Int × Int):=turner_write.l0 k a1 ([] : List Int) l2 (l2.length : Int) 0 a0_0 a0_1 a0_2 l0_3 l0_4 a0_5
theorem turner_write.mono_l : ∀ k,(∀ y0 y1 y2 y3 y4 y5 y6 y7 y8 y9 y10,LeO (turner_write.l0 k y0 y1 y2 y3 y4 y5 y6 y7 y8 y9 y10) (turner_write.l0 (k + 1) y0 y1 y2 y3 y4 y5 y6 y7 y8 y9 y10))
 | 0=>fun _ _ _ _ _ _ _ _ _ _ _ r h=>by simp [turner_write.l0] at h
 | k + 1=>by
  have ih0:=turner_write.mono_l k
  ·intro y0 y1 y2 y3 y4 y5 y6 y7 y8 y9 y10
   unfold turner_write.l0
   repeat' first
   | (with_reducible exact ih0 _ _ _ _ _ _ _ _ _ _ _)
   | (with_reducible exact LeO.refl _)
   | (with_reducible exact LeO.none _)
   | (with_reducible refine LeO.ite ?_ ?_)
   | (with_reducible refine LeO.bind ?_ (fun _=>?_))
   | exact ih0 _ _ _ _ _ _ _ _ _ _ _
   | exact LeO.none _
   | refine LeO.ite ?_ ?_
   | refine LeO.bind ?_ (fun _=>?_)
theorem turner_write.mono : ∀ a0 a1 a2 a3 a4 a5 a6 a7 k,LeO (turner_write.f k a0 a1 a2 a3 a4 a5 a6 a7) (turner_write.f (k + 1) a0 a1 a2 a3 a4 a5 a6 a7):=by
 intro a0 a1 a2 a3 a4 a5 a6 a7 k
 have ih0:=turner_write.mono_l k
 unfold turner_write.f
 repeat' first
   | (with_reducible exact ih0 _ _ _ _ _ _ _ _ _ _ _)
   | (with_reducible exact LeO.refl _)
   | (with_reducible exact LeO.none _)
   | (with_reducible refine LeO.ite ?_ ?_)
   | (with_reducible refine LeO.bind ?_ (fun _=>?_))
   | exact ih0 _ _ _ _ _ _ _ _ _ _ _
   | exact LeO.none _
   | refine LeO.ite ?_ ?_
   | refine LeO.bind ?_ (fun _=>?_)
set_option maxHeartbeats 8000000 in
set_option maxRecDepth 100000 in
theorem turner_write.calls (k : Nat) (a0_0 : Int) (a0_1 : Int) (a0_2 : Int) (A0_3 : Option Addr) (c0_3 : Nat) (l0_3 : List (List Int)) (A0_4 : Option Addr) (c0_4 : Nat) (l0_4 : List (List (List Int))) (a0_5 : Int) (a1 : Int) (A2 : Option Addr) (c2 : Nat) (l2 : List Int) (r1 : List Int) (r2 : Int) (w : World) (hr0_3 : Kd.C (Kd.slice 3 (Kd.int .i64)) w A0_3 l0_3.length l0_3) (hc0_3 : l0_3.length ≤ c0_3) (hr0_4 : Kd.C (Kd.slice 26 (Kd.slice 3 (Kd.int .i64))) w A0_4 l0_4.length l0_4) (hc0_4 : l0_4.length ≤ c0_4) (hr2 : Kd.C (Kd.int .i64) w A2 l2.length l2) (hc2 : l2.length ≤ c2) (h : turner_write.f k a0_0 a0_1 a0_2 l0_3 l0_4 a0_5 a1 l2 = some (r1,r2)) :
  Calls Try.prog 10 #[.agg #[.int .i64 a0_0,.int .i64 a0_1,.int .i64 a0_2,.slice A0_3 l0_3.length c0_3,.slice A0_4 l0_4.length c0_4,.int .i64 a0_5],.int .i64 a1,.slice A2 l2.length c2] w fun e w'=>∃ v0_ : Value,e = .returned (.tuple #[v0_,.int .i64 r2]) ∧ Kd.R (Kd.int .i64) 3 w' w.heap.size (fun _=>True) v0_ r1 ∧ Below w.heap.size w w':=by
 have hu25:=Try.underlying25
 have HR0_3:=Aside0.mk hr0_3
 have HC0_3:=Aside0.mk hc0_3
 clear hr0_3 hc0_3
 have HR0_4:=Aside0.mk hr0_4
 have HC0_4:=Aside0.mk hc0_4
 clear hr0_4 hc0_4
 have HR2:=Aside0.mk hr2
 have HC2:=Aside0.mk hc2
 clear hr2 hc2
 have HB:=Aside0.mk (Below.refl w.heap.size w)
 have H : (turner_write.l0 k a1 ([] : List Int) l2 (l2.length : Int) 0 a0_0 a0_1 a0_2 l0_3 l0_4 a0_5) = some (r1,r2):=h
 clear h
 have H':=Aside0.mk H
 clear H
 go_enter Try.func10,Try.ntmps10
 go_wp2_with (first|((with_reducible refine gate_dst (N:=3) rfl ?_);refine box_event ?hg (N:=3) ?hd (cs:=#[.int .i64 a0_0,.int .i64 a0_1,.int .i64 a0_2,.slice A0_3 l0_3.length c0_3,.slice A0_4 l0_4.length c0_4,.int .i64 a0_5]) (t:=25) ?hr ?_;(case hd=>rfl);(case hg=>rfl);(case hr=>first|(go_simp;done)|(go_simp;rfl));intro gb122 hg w4 hbox hb;have n0_:=Aside0.mk (below_step (by repeat (first|(with_reducible first|exact HB.out|apply below_alloc|apply pw_below_drewN|apply below_drew1)|exact HB.out)) hb);have n1_:=Aside0.mk (hbox);have n2_:=Aside0.mk ((by rw [hg];exact (below_size (by repeat (first|(with_reducible first|exact HB.out|apply below_alloc|apply pw_below_drewN|apply below_drew1)|exact HB.out))) : w.heap.size ≤ gb122));have n3_:=Aside0.mk ((by rw [hg];exact (below_size (by repeat (first|(with_reducible first|exact HB.out|apply below_alloc|apply pw_below_drewN|apply below_drew1)|exact HB.out))) : w.heap.size ≤ gb122));clear HB;have HB:=n0_;have BK122:=n1_;have GW122:=n2_;have GE122:=n3_;clear n0_ n1_ n2_ n3_;clear hb hbox hg))
 go_loopg [1,8,13] k (fun kq v1 v8 v13 w'=>∃ (x1_1 : Int) (x8_1 : List Int) (x13_1 : Int),v1 = .int .i64 x1_1 ∧ v13 = .int .i64 x13_1 ∧ Aside0 (turner_write.l0 kq x1_1 x8_1 l2 (l2.length : Int) x13_1 a0_0 a0_1 a0_2 l0_3 l0_4 a0_5 = some (r1,r2)) ∧ Aside0 (kq ≤ k) ∧ Aside0 (Kd.R (Kd.int .i64) 3 w' w.heap.size (fun _=>True) v8 x8_1) ∧ Aside0 (w'.heap[gb122]? = some (.cells #[.int .i64 a0_0,.int .i64 a0_1,.int .i64 a0_2,(.slice A0_3 l0_3.length c0_3),(.slice A0_4 l0_4.length c0_4),.int .i64 a0_5] 25 (0,0))) ∧ Aside0 (Below w.heap.size w w'))
 case atStart=>exact ⟨(a1),(([] : List Int)),(0),(by first|rfl|(simp;done)|(simp [*];done)),(by first|rfl|(simp;done)|(simp [*];done)),H',⟨Nat.le_refl _⟩,⟨by first|exact Kd.R_nil _ _ _ _ _|exact Kd.N_nil _ _ _ _ _|exact Kd.V_nil _ _ _ _ _|exact Kd.Q_nil _ _ _ _ _|exact Kd.S_nil _ _ _ _ _⟩,⟨by (with_reducible repeat (first|refine blk_drewN ?_ _|refine blk_drew ?_|refine blk_alloc ?_ _));exact BK122.out⟩,⟨by repeat (first|(with_reducible first|exact HB.out|apply below_alloc|apply pw_below_drewN|apply below_drew1|refine below_set ?_ GE122.out)|exact HB.out)⟩⟩
 case round =>
  clear H'
  try clear c1
  try clear c2
  try clear p2
  obtain ⟨x1_1,x8_1,x13_1,rfl,rfl,HA,HK1,HO_8,BK122,HB⟩:=hrel
  cases gk with
  | zero=>exact absurd HA.out (by simp [turner_write.l0])
  | succ k1 =>
   have H:=HA.out
   clear HA
   simp only [turner_write.l0] at H
   by_cases c5 : x13_1 < (l2.length : Int)
   ·rw [if_pos c5] at H
    have c5b0 : decide (x13_1 < (l2.length : Int)) = true:=decide_eq_true c5
    clear c5
    by_cases c6 : 0 ≤ x13_1
    ·rw [if_pos c6] at H
     have c6b0 : decide (0 ≤ x13_1) = true:=decide_eq_true c6
     clear c6
     by_cases c7 : x13_1 < (l2.length : Int)
     ·rw [if_pos c7] at H
      have c7b0 : decide (x13_1 < (l2.length : Int)) = true:=decide_eq_true c7
      clear c7
      by_cases c8 : 0 ≤ x1_1
      ·rw [if_pos c8] at H
       have c8b0 : decide (0 ≤ x1_1) = true:=decide_eq_true c8
       clear c8
       by_cases c9 : x1_1 < (l0_4.length : Int)
       ·rw [if_pos c9] at H
        have c9b0 : decide (x1_1 < (l0_4.length : Int)) = true:=decide_eq_true c9
        clear c9
        by_cases c10 : 0 ≤ (rd l2 x13_1)
        ·rw [if_pos c10] at H
         have c10b0 : decide (0 ≤ (rd l2 x13_1)) = true:=decide_eq_true c10
         clear c10
         by_cases c11 : (rd l2 x13_1) < ((rd_L2 l0_4 x1_1).length : Int)
         ·rw [if_pos c11] at H
          have c11b0 : decide ((rd l2 x13_1) < ((rd_L2 l0_4 x1_1).length : Int)) = true:=decide_eq_true c11
          clear c11
          by_cases c12 : x8_1.length + (rd_L1 (rd_L2 l0_4 x1_1) (rd l2 x13_1)).length < 17592186044416
          ·rw [if_pos c12] at H
           have LMc12:=Aside0.mk c12
           clear c12
           obtain ⟨y126,hy126⟩ : ∃ y_ : List Int,y_ = (x8_1 ++ (rd_L1 (rd_L2 l0_4 x1_1) (rd l2 x13_1))):=⟨_,rfl⟩
           replace H : (if x1_1 < (l0_3.length : Int) then (if (rd l2 x13_1) < ((rd_L1 l0_3 x1_1).length : Int) then (turner_write.l0 k1 (rd (rd_L1 l0_3 x1_1) (rd l2 x13_1)) y126 l2 (l2.length : Int) (wrap64 (x13_1 + 1)) a0_0 a0_1 a0_2 l0_3 l0_4 a0_5) else (none)) else (none)) = some (r1,r2):=by first|(rw [hy126];with_reducible exact H)|(have H2_:=(Option.bind_some _ _).symm.trans H;rw [hy126];with_reducible exact H2_)|(have H2_:=(Option.bind_some _ _).symm.trans H;with_reducible exact H2_)|with_reducible exact H|(rw [hy126];exact H)|exact H
           have Ny126:=Aside0.mk hy126
           clear hy126
           by_cases c13 : x1_1 < (l0_3.length : Int)
           ·rw [if_pos c13] at H
            have c13b0 : decide (x1_1 < (l0_3.length : Int)) = true:=decide_eq_true c13
            clear c13
            by_cases c14 : (rd l2 x13_1) < ((rd_L1 l0_3 x1_1).length : Int)
            ·rw [if_pos c14] at H
             have c14b0 : decide ((rd l2 x13_1) < ((rd_L1 l0_3 x1_1).length : Int)) = true:=decide_eq_true c14
             clear c14
             have H':=Aside0.mk H
             clear H
             have p123 : 0 ≤ (x13_1 : Int):=of_decide_eq_true (by first|(with_reducible assumption)|assumption)
             have q123 : x13_1 < (l2.length : Int):=of_decide_eq_true (by first|(with_reducible assumption)|assumption)
             obtain ⟨ad123,e123,hx123_0⟩:=Kd.at_int HR2.out x13_1 p123 q123
             cases e123
             replace hx123_0:=(HB.out.cell (World.block_lt_of_cell? w _ hx123_0)).trans hx123_0
             replace p123:=eq_true p123
             replace q123:=eq_true q123
             have hcz15_0 : wr.cell? ⟨gb122,0,none⟩ = some (.int .i64 a0_0):=(blk_cell BK122.out 0).trans rfl
             have hcz15_1 : wr.cell? ⟨gb122,1,none⟩ = some (.int .i64 a0_1):=(blk_cell BK122.out 1).trans rfl
             have hcz15_2 : wr.cell? ⟨gb122,2,none⟩ = some (.int .i64 a0_2):=(blk_cell BK122.out 2).trans rfl
             have hcz15_3 : wr.cell? ⟨gb122,3,none⟩ = some (.slice A0_3 l0_3.length c0_3):=(blk_cell BK122.out 3).trans rfl
             have hcz15_4 : wr.cell? ⟨gb122,4,none⟩ = some (.slice A0_4 l0_4.length c0_4):=(blk_cell BK122.out 4).trans rfl
             have hcz15_5 : wr.cell? ⟨gb122,5,none⟩ = some (.int .i64 a0_5):=(blk_cell BK122.out 5).trans rfl
             have hfz15_0:=blk_frozen BK122.out 0
             have hfz15_1:=blk_frozen BK122.out 1
             have hfz15_2:=blk_frozen BK122.out 2
             have hfz15_3:=blk_frozen BK122.out 3
             have hfz15_4:=blk_frozen BK122.out 4
             have hfz15_5:=blk_frozen BK122.out 5
             have p124 : 0 ≤ (x1_1 : Int):=of_decide_eq_true (by first|(with_reducible assumption)|assumption)
             have q124 : x1_1 < (l0_4.length : Int):=of_decide_eq_true (by first|(with_reducible assumption)|assumption)
             obtain ⟨ad124,A124_0,c124_0,e124,hx124_0,hl124_0,hi124_0⟩:=at_L2 HR0_4.out x1_1 p124 q124
             cases e124
             replace hx124_0:=(HB.out.cell (World.block_lt_of_cell? w _ hx124_0)).trans hx124_0
             have HR124_0:=Aside0.mk hi124_0
             have HC124_0:=Aside0.mk hl124_0
             clear hi124_0 hl124_0
             replace p124:=eq_true p124
             replace q124:=eq_true q124
             have p125 : 0 ≤ ((rd l2 x13_1) : Int):=of_decide_eq_true (by first|(with_reducible assumption)|assumption)
             have q125 : (rd l2 x13_1) < ((rd_L2 l0_4 x1_1).length : Int):=of_decide_eq_true (by first|(with_reducible assumption)|assumption)
             obtain ⟨ad125,A125_0,c125_0,e125,hx125_0,hl125_0,hi125_0⟩:=at_L1 HR124_0.out (rd l2 x13_1) p125 q125
             cases e125
             replace hx125_0:=(HB.out.cell (World.block_lt_of_cell? w _ hx125_0)).trans hx125_0
             have HR125_0:=Aside0.mk hi125_0
             have HC125_0:=Aside0.mk hl125_0
             clear hi125_0 hl125_0
             replace p125:=eq_true p125
             replace q125:=eq_true q125
             go_wp2_with (first|((with_reducible refine gate_builtin (b:=.append) (xs:=#[.tmp 17,.tmp 25]) rfl ?_);at_builtin;refine Kd.R_append_rows (Kd.int .i64) (w0:=w) w.heap.size rfl (.tmp 17) (.tmp 25) 26 3 (.int .i64 0) 8 rfl Try.underlying26 info3 rfl (by decide) (by omega) u8 x8_1 (rd_L1 (rd_L2 l0_4 x1_1) (rd l2 x13_1)) _ _ _ (fun _=>True) (fun _=>False) rfl rfl ?aO ?aR (fun _ _ h=>h) (fun _ h=>h.elim) ?aF ?aB ?aS ?aL ?_;(case aR=>repeat (first|exact (Kd.C_below HR125_0.out HB.out)|(with_reducible refine Kd.C_alloc ?_ _)|(with_reducible refine Kd.C_drewN ?_ _)|(with_reducible refine Kd.C_drew ?_)));(case aB=>exact (by repeat (first|(with_reducible first|exact HB.out|apply below_alloc|apply pw_below_drewN|apply below_drew1|refine below_set ?_ GE122.out)|exact HB.out)));(case aF=>exact (fun _ _=>trivial));(case aO=>exact (by (with_reducible repeat (first|apply Kd.R_alloc|apply Kd.R_drewN|apply Kd.R_drew));exact HO_8.out));(case aS=>exact (below_size (by repeat (first|(with_reducible first|exact HB.out|apply below_alloc|apply pw_below_drewN|apply below_drew1|refine below_set ?_ GE122.out)|exact HB.out))));(case aL=>have:=LMc12.out;omega);intro v127 w16 ho hb hg hat;rw [← Ny126.out] at ho;have n0_:=Aside0.mk (blk_grown (g:=gb122) (o:=.cells #[.int .i64 a0_0,.int .i64 a0_1,.int .i64 a0_2,.slice A0_3 l0_3.length c0_3,.slice (some ad124) l0_4.length c0_4,.int .i64 a0_5] 25 (0,0)) (by (with_reducible repeat (first|refine blk_drewN ?_ _|refine blk_drew ?_|refine blk_alloc ?_ _));exact BK122.out) hg (Kd.R_ne HO_8.out BK122.out (by decide)));have n1_:=Aside0.mk (hb);have n2_:=Aside0.mk (ho);clear BK122;clear HB;clear HO_8;have BK122:=n0_;have HB:=n1_;have HO128:=n2_;clear n0_ n1_ n2_;clear ho hb hg hat;have hcz17_0 : w16.cell? ⟨gb122,0,none⟩ = some (.int .i64 a0_0):=(blk_cell BK122.out 0).trans rfl;have hcz17_1 : w16.cell? ⟨gb122,1,none⟩ = some (.int .i64 a0_1):=(blk_cell BK122.out 1).trans rfl;have hcz17_2 : w16.cell? ⟨gb122,2,none⟩ = some (.int .i64 a0_2):=(blk_cell BK122.out 2).trans rfl;have hcz17_3 : w16.cell? ⟨gb122,3,none⟩ = some (.slice A0_3 l0_3.length c0_3):=(blk_cell BK122.out 3).trans rfl;have hcz17_4 : w16.cell? ⟨gb122,4,none⟩ = some (.slice (some ad124) l0_4.length c0_4):=(blk_cell BK122.out 4).trans rfl;have hcz17_5 : w16.cell? ⟨gb122,5,none⟩ = some (.int .i64 a0_5):=(blk_cell BK122.out 5).trans rfl;have hfz17_0:=blk_frozen BK122.out 0;have hfz17_1:=blk_frozen BK122.out 1;have hfz17_2:=blk_frozen BK122.out 2;have hfz17_3:=blk_frozen BK122.out 3;have hfz17_4:=blk_frozen BK122.out 4;have hfz17_5:=blk_frozen BK122.out 5;have p129 : 0 ≤ (x1_1 : Int):=of_decide_eq_true (by first|(with_reducible assumption)|assumption);have q129 : x1_1 < (l0_3.length : Int):=of_decide_eq_true (by first|(with_reducible assumption)|assumption);obtain ⟨ad129,A129_0,c129_0,e129,hx129_0,hl129_0,hi129_0⟩:=at_L1 HR0_3.out x1_1 p129 q129;cases e129;replace hx129_0:=(HB.out.cell (World.block_lt_of_cell? w _ hx129_0)).trans hx129_0;have HR129_0:=Aside0.mk hi129_0;have HC129_0:=Aside0.mk hl129_0;clear hi129_0 hl129_0;replace p129:=eq_true p129;replace q129:=eq_true q129;have p130 : 0 ≤ ((rd l2 x13_1) : Int):=of_decide_eq_true (by first|(with_reducible assumption)|assumption);have q130 : (rd l2 x13_1) < ((rd_L1 l0_3 x1_1).length : Int):=of_decide_eq_true (by first|(with_reducible assumption)|assumption);obtain ⟨ad130,e130,hx130_0⟩:=Kd.at_int HR129_0.out (rd l2 x13_1) p130 q130;cases e130;replace hx130_0:=(HB.out.cell (World.block_lt_of_cell? w _ hx130_0)).trans hx130_0;replace p130:=eq_true p130;replace q130:=eq_true q130))
             go_roundg k1
             case measure=>have:=HK1.out;omega
             case rel=>exact ⟨(rd (rd_L1 l0_3 x1_1) (rd l2 x13_1)),(y126),(wrap64 (x13_1 + 1)),(by first|rfl|(simp;done)|(simp [*];done)),(by first|rfl|(simp;done)|(simp [*];done)),H',⟨by have:=HK1.out;omega⟩,⟨by (with_reducible repeat (first|apply Kd.R_alloc|apply Kd.R_drewN|apply Kd.R_drew));exact HO128.out⟩,⟨by (with_reducible repeat (first|refine blk_drewN ?_ _|refine blk_drew ?_|refine blk_alloc ?_ _));exact BK122.out⟩,⟨by repeat (first|(with_reducible first|exact HB.out|apply below_alloc|apply pw_below_drewN|apply below_drew1|refine below_set ?_ GE122.out)|exact HB.out)⟩⟩
            ·rw [if_neg c14] at H
             exact absurd H (by simp)
           ·rw [if_neg c13] at H
            exact absurd H (by simp)
          ·rw [if_neg c12] at H
           exact absurd H (by simp)
         ·rw [if_neg c11] at H
          exact absurd H (by simp)
        ·rw [if_neg c10] at H
         exact absurd H (by simp)
       ·rw [if_neg c9] at H
        exact absurd H (by simp)
      ·rw [if_neg c8] at H
       exact absurd H (by simp)
     ·rw [if_neg c7] at H
      exact absurd H (by simp)
    ·rw [if_neg c6] at H
     exact absurd H (by simp)
   ·rw [if_neg c5] at H
    have c5b0 : decide (x13_1 < (l2.length : Int)) = false:=decide_eq_false c5
    clear c5
    simp only [Option.some.injEq,Prod.mk.injEq] at H
    obtain ⟨rfl,rfl⟩:=H
    go_wp2
    go_ret2
    exact ⟨_,by first|rfl|(simp [errW_none,errW_some] <;> rfl)|(simp [*,errW_none,errW_some] <;> rfl),by (with_reducible repeat (first|apply Kd.R_alloc|apply Kd.R_drewN|apply Kd.R_drew));exact HO_8.out,by repeat (first|(with_reducible first|exact HB.out|apply below_alloc|apply pw_below_drewN|apply below_drew1|refine below_set ?_ GE122.out)|exact HB.out)⟩
end Go.Proofs.Ytlkeemcapemkiaa.GA
