-- Written by ext.py, a program of this session.
import Derived.Test.YtiiankjmeodjdaaGV0
import Derived.Test.YtiiankjmeodjdaaGV1
import Derived.Test.YtiiankjmeodjdaaGV5
namespace Go.Proofs.Ytiiankjmeodjdaa.GV
open Go.RowKit Go.Proofs.YtiiankjmeodjdaaW.PrintWords Go.Proofs.YtiiankjmeodjdaaW.PrintLast Go.Proofs.YtiiankjmeodjdaaW.PrintMore
attribute [local go_sem] max2_int min2_int max_two min_two max_three min_three max_four min_four cellIs_set   -- for this text's walks alone
set_option linter.unusedVariables false
set_option linter.unusedSimpArgs false
/-! ### turner_write: function 47 -/
def turner_write.l0 : Nat → Int → List Int → List Int → Int → Int → Int → Int → Int → List (List Int) → List (List (List Int)) → Int → Option (List Int × Int)
 | 0,_,_,_,_,_,_,_,_,_,_,_=>none
 | k + 1,x1,x8,x11,x12,x13,x142000,x142001,x142002,x142003,x142004,x142005=>if x13 < x12 then (if 0 ≤ x13 then (if x13 < (x11.length : Int) then (if 0 ≤ x1 then (if x1 < (x142004.length : Int) then (if 0 ≤ (rd x11 x13) then (if (rd x11 x13) < ((rd_L2 x142004 x1).length : Int) then (if x8.length + (rd_L1 (rd_L2 x142004 x1) (rd x11 x13)).length < 17592186044416 then (if x1 < (x142003.length : Int) then (if (rd x11 x13) < ((rd_L1 x142003 x1).length : Int) then (turner_write.l0 k (rd (rd_L1 x142003 x1) (rd x11 x13)) (x8 ++ (rd_L1 (rd_L2 x142004 x1) (rd x11 x13))) x11 x12 (wrap64 (x13 + 1)) x142000 x142001 x142002 x142003 x142004 x142005) else (none)) else (none)) else (none)) else (none)) else (none)) else (none)) else (none)) else (none)) else (none)) else (some (x8,x1))
def turner_write.f (k : Nat) (a0_0 : Int) (a0_1 : Int) (a0_2 : Int) (l0_3 : List (List Int)) (l0_4 : List (List (List Int))) (a0_5 : Int) (a1 : Int) (l2 : List Int) : Option (List Int × Int):=turner_write.l0 k a1 ([] : List Int) l2 (l2.length : Int) 0 a0_0 a0_1 a0_2 l0_3 l0_4 a0_5
theorem turner_write.mono_l : ∀ k,(∀ y0 y1 y2 y3 y4 y5 y6 y7 y8 y9 y10,LeO (turner_write.l0 k y0 y1 y2 y3 y4 y5 y6 y7 y8 y9 y10) (turner_write.l0 (k + 1) y0 y1 y2 y3 y4 y5 y6 y7 y8 y9 y10))
 | 0=>fun _ _ _ _ _ _ _ _ _ _ _ r h=>by simp [turner_write.l0] at h
 | k + 1=>by
  have ih0:=turner_write.mono_l k
  ·intro y0 y1 y2 y3 y4 y5 y6 y7 y8 y9 y10
   unfold turner_write.l0
   repeat' first
   | (with_reducible exact ih0 _ _ _ _ _ _ _ _ _ _ _)
   | (with_reducible exact LeO.refl _)
   | (with_reducible exact LeO.none _)
   | (with_reducible refine LeO.ite ?_ ?_)
   | (with_reducible refine LeO.bind ?_ (fun _=>?_))
   | exact ih0 _ _ _ _ _ _ _ _ _ _ _
   | exact LeO.none _
   | refine LeO.ite ?_ ?_
   | refine LeO.bind ?_ (fun _=>?_)
theorem turner_write.mono : ∀ a0 a1 a2 a3 a4 a5 a6 a7 k,LeO (turner_write.f k a0 a1 a2 a3 a4 a5 a6 a7) (turner_write.f (k + 1) a0 a1 a2 a3 a4 a5 a6 a7):=by
 intro a0 a1 a2 a3 a4 a5 a6 a7 k
 have ih0:=turner_write.mono_l k
 unfold turner_write.f
 repeat' first
   | (with_reducible exact ih0 _ _ _ _ _ _ _ _ _ _ _)
   | (with_reducible exact LeO.refl _)
   | (with_reducible exact LeO.none _)
   | (with_reducible refine LeO.ite ?_ ?_)
   | (with_reducible refine LeO.bind ?_ (fun _=>?_))
   | exact ih0 _ _ _ _ _ _ _ _ _ _ _
   | exact LeO.none _
   | refine LeO.ite ?_ ?_
   | refine LeO.bind ?_ (fun _=>?_)
set_option maxHeartbeats 8000000 in
set_option maxRecDepth 100000 in
theorem turner_write.calls (k : Nat) (a0_0 : Int) (a0_1 : Int) (a0_2 : Int) (A0_3 : Option Addr) (c0_3 : Nat) (l0_3 : List (List Int)) (A0_4 : Option Addr) (c0_4 : Nat) (l0_4 : List (List (List Int))) (a0_5 : Int) (a1 : Int) (A2 : Option Addr) (c2 : Nat) (l2 : List Int) (r1 : List Int) (r2 : Int) (w : World) (hr0_3 : Kd.C (Kd.slice 3 (Kd.int .i64)) w A0_3 l0_3.length l0_3) (hc0_3 : l0_3.length ≤ c0_3) (hr0_4 : Kd.C (Kd.slice 28 (Kd.slice 3 (Kd.int .i64))) w A0_4 l0_4.length l0_4) (hc0_4 : l0_4.length ≤ c0_4) (hr2 : Kd.C (Kd.int .i64) w A2 l2.length l2) (hc2 : l2.length ≤ c2) (h : turner_write.f k a0_0 a0_1 a0_2 l0_3 l0_4 a0_5 a1 l2 = some (r1,r2)) :
  Calls Try.prog 47 #[.agg #[.int .i64 a0_0,.int .i64 a0_1,.int .i64 a0_2,.slice A0_3 l0_3.length c0_3,.slice A0_4 l0_4.length c0_4,.int .i64 a0_5],.int .i64 a1,.slice A2 l2.length c2] w fun e w'=>∃ v0_ : Value,e = .returned (.tuple #[v0_,.int .i64 r2]) ∧ Kd.R (Kd.int .i64) 3 w' w.heap.size (fun _=>True) v0_ r1 ∧ Below w.heap.size w w':=by
 have hu50:=Try.underlying50
 have HR0_3:=Aside0.mk hr0_3
 have HC0_3:=Aside0.mk hc0_3
 clear hr0_3 hc0_3
 have HR0_4:=Aside0.mk hr0_4
 have HC0_4:=Aside0.mk hc0_4
 clear hr0_4 hc0_4
 have HR2:=Aside0.mk hr2
 have HC2:=Aside0.mk hc2
 clear hr2 hc2
 have HB:=Aside0.mk (Below.refl w.heap.size w)
 have H : (turner_write.l0 k a1 ([] : List Int) l2 (l2.length : Int) 0 a0_0 a0_1 a0_2 l0_3 l0_4 a0_5) = some (r1,r2):=h
 clear h
 have H':=Aside0.mk H
 clear H
 go_enter Try.func47,Try.ntmps47
 go_wp2_with (first|((with_reducible refine gate_dst (N:=3) rfl ?_);refine box_event ?hg (N:=3) ?hd (cs:=#[.int .i64 a0_0,.int .i64 a0_1,.int .i64 a0_2,.slice A0_3 l0_3.length c0_3,.slice A0_4 l0_4.length c0_4,.int .i64 a0_5]) (t:=50) ?hr ?_;(case hd=>rfl);(case hg=>rfl);(case hr=>first|(go_simp;done)|(go_simp;rfl));intro gb141 hg w4 hbox hb;have n0_:=Aside0.mk (below_step (by repeat (first|(with_reducible first|exact HB.out|apply below_alloc|apply pw_below_drewN|apply below_drew1)|exact HB.out)) hb);have n1_:=Aside0.mk (hbox);have n2_:=Aside0.mk ((by rw [hg];exact (below_size (by repeat (first|(with_reducible first|exact HB.out|apply below_alloc|apply pw_below_drewN|apply below_drew1)|exact HB.out))) : w.heap.size ≤ gb141));have n3_:=Aside0.mk ((by rw [hg];exact (below_size (by repeat (first|(with_reducible first|exact HB.out|apply below_alloc|apply pw_below_drewN|apply below_drew1)|exact HB.out))) : w.heap.size ≤ gb141));clear HB;have HB:=n0_;have BK141:=n1_;have GW141:=n2_;have GE141:=n3_;clear n0_ n1_ n2_ n3_;clear hb hbox hg))
 go_loopg [1,8,13] k (fun kq v1 v8 v13 w'=>∃ (x1_1 : Int) (x8_1 : List Int) (x13_1 : Int),v1 = .int .i64 x1_1 ∧ v13 = .int .i64 x13_1 ∧ Aside0 (turner_write.l0 kq x1_1 x8_1 l2 (l2.length : Int) x13_1 a0_0 a0_1 a0_2 l0_3 l0_4 a0_5 = some (r1,r2)) ∧ Aside0 (kq ≤ k) ∧ Aside0 (Kd.R (Kd.int .i64) 3 w' w.heap.size (fun _=>True) v8 x8_1) ∧ Aside0 (w'.heap[gb141]? = some (.cells #[.int .i64 a0_0,.int .i64 a0_1,.int .i64 a0_2,(.slice A0_3 l0_3.length c0_3),(.slice A0_4 l0_4.length c0_4),.int .i64 a0_5] 50 (0,0))) ∧ Aside0 (Below w.heap.size w w'))
 case atStart=>exact ⟨(a1),(([] : List Int)),(0),(by first|rfl|(simp;done)|(simp [*];done)),(by first|rfl|(simp;done)|(simp [*];done)),H',⟨Nat.le_refl _⟩,⟨by first|exact Kd.R_nil _ _ _ _ _|exact Kd.N_nil _ _ _ _ _|exact Kd.V_nil _ _ _ _ _|exact Kd.Q_nil _ _ _ _ _|exact Kd.S_nil _ _ _ _ _⟩,⟨by (with_reducible repeat (first|refine blk_drewN ?_ _|refine blk_drew ?_|refine blk_alloc ?_ _));exact BK141.out⟩,⟨by repeat (first|(with_reducible first|exact HB.out|apply below_alloc|apply pw_below_drewN|apply below_drew1|refine below_set ?_ GE141.out)|exact HB.out)⟩⟩
 case round =>
  clear H'
  try clear c2
  try clear p2
  try clear c4
  obtain ⟨x1_1,x8_1,x13_1,rfl,rfl,HA,HK1,HO_8,BK141,HB⟩:=hrel
  cases gk with
  | zero=>exact absurd HA.out (by simp [turner_write.l0])
  | succ k1 =>
   have H:=HA.out
   clear HA
   simp only [turner_write.l0] at H
   by_cases c5 : x13_1 < (l2.length : Int)
   ·rw [if_pos c5] at H
    have c5b0 : decide (x13_1 < (l2.length : Int)) = true:=decide_eq_true c5
    clear c5
    by_cases c6 : 0 ≤ x13_1
    ·rw [if_pos c6] at H
     have c6b0 : decide (0 ≤ x13_1) = true:=decide_eq_true c6
     clear c6
     by_cases c7 : x13_1 < (l2.length : Int)
     ·rw [if_pos c7] at H
      have c7b0 : decide (x13_1 < (l2.length : Int)) = true:=decide_eq_true c7
      clear c7
      by_cases c8 : 0 ≤ x1_1
      ·rw [if_pos c8] at H
       have c8b0 : decide (0 ≤ x1_1) = true:=decide_eq_true c8
       clear c8
       by_cases c9 : x1_1 < (l0_4.length : Int)
       ·rw [if_pos c9] at H
        have c9b0 : decide (x1_1 < (l0_4.length : Int)) = true:=decide_eq_true c9
        clear c9
        by_cases c10 : 0 ≤ (rd l2 x13_1)
        ·rw [if_pos c10] at H
         have c10b0 : decide (0 ≤ (rd l2 x13_1)) = true:=decide_eq_true c10
         clear c10
         by_cases c11 : (rd l2 x13_1) < ((rd_L2 l0_4 x1_1).length : Int)
         ·rw [if_pos c11] at H
          have c11b0 : decide ((rd l2 x13_1) < ((rd_L2 l0_4 x1_1).length : Int)) = true:=decide_eq_true c11
          clear c11
          by_cases c12 : x8_1.length + (rd_L1 (rd_L2 l0_4 x1_1) (rd l2 x13_1)).length < 17592186044416
          ·rw [if_pos c12] at H
           have LMc12:=Aside0.mk c12
           clear c12
           obtain ⟨y145,hy145⟩ : ∃ y_ : List Int,y_ = (x8_1 ++ (rd_L1 (rd_L2 l0_4 x1_1) (rd l2 x13_1))):=⟨_,rfl⟩
           replace H : (if x1_1 < (l0_3.length : Int) then (if (rd l2 x13_1) < ((rd_L1 l0_3 x1_1).length : Int) then (turner_write.l0 k1 (rd (rd_L1 l0_3 x1_1) (rd l2 x13_1)) y145 l2 (l2.length : Int) (wrap64 (x13_1 + 1)) a0_0 a0_1 a0_2 l0_3 l0_4 a0_5) else (none)) else (none)) = some (r1,r2):=by first|(rw [hy145];with_reducible exact H)|(have H2_:=(Option.bind_some _ _).symm.trans H;rw [hy145];with_reducible exact H2_)|(have H2_:=(Option.bind_some _ _).symm.trans H;with_reducible exact H2_)|with_reducible exact H|(rw [hy145];exact H)|exact H
           have Ny145:=Aside0.mk hy145
           clear hy145
           by_cases c13 : x1_1 < (l0_3.length : Int)
           ·rw [if_pos c13] at H
            have c13b0 : decide (x1_1 < (l0_3.length : Int)) = true:=decide_eq_true c13
            clear c13
            by_cases c14 : (rd l2 x13_1) < ((rd_L1 l0_3 x1_1).length : Int)
            ·rw [if_pos c14] at H
             have c14b0 : decide ((rd l2 x13_1) < ((rd_L1 l0_3 x1_1).length : Int)) = true:=decide_eq_true c14
             clear c14
             have H':=Aside0.mk H
             clear H
             have p142 : 0 ≤ (x13_1 : Int):=of_decide_eq_true (by first|(with_reducible assumption)|assumption)
             have q142 : x13_1 < (l2.length : Int):=of_decide_eq_true (by first|(with_reducible assumption)|assumption)
             obtain ⟨ad142,e142,hx142_0⟩:=Kd.at_int HR2.out x13_1 p142 q142
             cases e142
             replace hx142_0:=(HB.out.cell (World.block_lt_of_cell? w _ hx142_0)).trans hx142_0
             replace p142:=eq_true p142
             replace q142:=eq_true q142
             have hcz15_0 : wr.cell? ⟨gb141,0,none⟩ = some (.int .i64 a0_0):=(blk_cell BK141.out 0).trans rfl
             have hcz15_1 : wr.cell? ⟨gb141,1,none⟩ = some (.int .i64 a0_1):=(blk_cell BK141.out 1).trans rfl
             have hcz15_2 : wr.cell? ⟨gb141,2,none⟩ = some (.int .i64 a0_2):=(blk_cell BK141.out 2).trans rfl
             have hcz15_3 : wr.cell? ⟨gb141,3,none⟩ = some (.slice A0_3 l0_3.length c0_3):=(blk_cell BK141.out 3).trans rfl
             have hcz15_4 : wr.cell? ⟨gb141,4,none⟩ = some (.slice A0_4 l0_4.length c0_4):=(blk_cell BK141.out 4).trans rfl
             have hcz15_5 : wr.cell? ⟨gb141,5,none⟩ = some (.int .i64 a0_5):=(blk_cell BK141.out 5).trans rfl
             have hfz15_0:=blk_frozen BK141.out 0
             have hfz15_1:=blk_frozen BK141.out 1
             have hfz15_2:=blk_frozen BK141.out 2
             have hfz15_3:=blk_frozen BK141.out 3
             have hfz15_4:=blk_frozen BK141.out 4
             have hfz15_5:=blk_frozen BK141.out 5
             have p143 : 0 ≤ (x1_1 : Int):=of_decide_eq_true (by first|(with_reducible assumption)|assumption)
             have q143 : x1_1 < (l0_4.length : Int):=of_decide_eq_true (by first|(with_reducible assumption)|assumption)
             obtain ⟨ad143,A143_0,c143_0,e143,hx143_0,hl143_0,hi143_0⟩:=at_L2 HR0_4.out x1_1 p143 q143
             cases e143
             replace hx143_0:=(HB.out.cell (World.block_lt_of_cell? w _ hx143_0)).trans hx143_0
             have HR143_0:=Aside0.mk hi143_0
             have HC143_0:=Aside0.mk hl143_0
             clear hi143_0 hl143_0
             replace p143:=eq_true p143
             replace q143:=eq_true q143
             have p144 : 0 ≤ ((rd l2 x13_1) : Int):=of_decide_eq_true (by first|(with_reducible assumption)|assumption)
             have q144 : (rd l2 x13_1) < ((rd_L2 l0_4 x1_1).length : Int):=of_decide_eq_true (by first|(with_reducible assumption)|assumption)
             obtain ⟨ad144,A144_0,c144_0,e144,hx144_0,hl144_0,hi144_0⟩:=at_L1 HR143_0.out (rd l2 x13_1) p144 q144
             cases e144
             replace hx144_0:=(HB.out.cell (World.block_lt_of_cell? w _ hx144_0)).trans hx144_0
             have HR144_0:=Aside0.mk hi144_0
             have HC144_0:=Aside0.mk hl144_0
             clear hi144_0 hl144_0
             replace p144:=eq_true p144
             replace q144:=eq_true q144
             go_wp2_with (first|((with_reducible refine gate_builtin (b:=.append) (xs:=#[.tmp 17,.tmp 25]) rfl ?_);at_builtin;refine Kd.R_append_rows (Kd.int .i64) (w0:=w) w.heap.size rfl (.tmp 17) (.tmp 25) 28 3 (.int .i64 0) 8 rfl Try.underlying28 info3 rfl (by decide) (by omega) u8 x8_1 (rd_L1 (rd_L2 l0_4 x1_1) (rd l2 x13_1)) _ _ _ (fun _=>True) (fun _=>False) rfl rfl ?aO ?aR (fun _ _ h=>h) (fun _ h=>h.elim) ?aF ?aB ?aS ?aL ?_;(case aR=>repeat (first|exact (Kd.C_below HR144_0.out HB.out)|(with_reducible refine Kd.C_alloc ?_ _)|(with_reducible refine Kd.C_drewN ?_ _)|(with_reducible refine Kd.C_drew ?_)));(case aB=>exact (by repeat (first|(with_reducible first|exact HB.out|apply below_alloc|apply pw_below_drewN|apply below_drew1|refine below_set ?_ GE141.out)|exact HB.out)));(case aF=>exact (fun _ _=>trivial));(case aO=>exact (by (with_reducible repeat (first|apply Kd.R_alloc|apply Kd.R_drewN|apply Kd.R_drew));exact HO_8.out));(case aS=>exact (below_size (by repeat (first|(with_reducible first|exact HB.out|apply below_alloc|apply pw_below_drewN|apply below_drew1|refine below_set ?_ GE141.out)|exact HB.out))));(case aL=>have:=LMc12.out;omega);intro v146 w16 ho hb hg hat;rw [← Ny145.out] at ho;have n0_:=Aside0.mk (blk_grown (g:=gb141) (o:=.cells #[.int .i64 a0_0,.int .i64 a0_1,.int .i64 a0_2,.slice A0_3 l0_3.length c0_3,.slice (some ad143) l0_4.length c0_4,.int .i64 a0_5] 50 (0,0)) (by (with_reducible repeat (first|refine blk_drewN ?_ _|refine blk_drew ?_|refine blk_alloc ?_ _));exact BK141.out) hg (Kd.R_ne HO_8.out BK141.out (by decide)));have n1_:=Aside0.mk (hb);have n2_:=Aside0.mk (ho);clear BK141;clear HB;clear HO_8;have BK141:=n0_;have HB:=n1_;have HO147:=n2_;clear n0_ n1_ n2_;clear ho hb hg hat;have hcz17_0 : w16.cell? ⟨gb141,0,none⟩ = some (.int .i64 a0_0):=(blk_cell BK141.out 0).trans rfl;have hcz17_1 : w16.cell? ⟨gb141,1,none⟩ = some (.int .i64 a0_1):=(blk_cell BK141.out 1).trans rfl;have hcz17_2 : w16.cell? ⟨gb141,2,none⟩ = some (.int .i64 a0_2):=(blk_cell BK141.out 2).trans rfl;have hcz17_3 : w16.cell? ⟨gb141,3,none⟩ = some (.slice A0_3 l0_3.length c0_3):=(blk_cell BK141.out 3).trans rfl;have hcz17_4 : w16.cell? ⟨gb141,4,none⟩ = some (.slice (some ad143) l0_4.length c0_4):=(blk_cell BK141.out 4).trans rfl;have hcz17_5 : w16.cell? ⟨gb141,5,none⟩ = some (.int .i64 a0_5):=(blk_cell BK141.out 5).trans rfl;have hfz17_0:=blk_frozen BK141.out 0;have hfz17_1:=blk_frozen BK141.out 1;have hfz17_2:=blk_frozen BK141.out 2;have hfz17_3:=blk_frozen BK141.out 3;have hfz17_4:=blk_frozen BK141.out 4;have hfz17_5:=blk_frozen BK141.out 5;have p148 : 0 ≤ (x1_1 : Int):=of_decide_eq_true (by first|(with_reducible assumption)|assumption);have q148 : x1_1 < (l0_3.length : Int):=of_decide_eq_true (by first|(with_reducible assumption)|assumption);obtain ⟨ad148,A148_0,c148_0,e148,hx148_0,hl148_0,hi148_0⟩:=at_L1 HR0_3.out x1_1 p148 q148;cases e148;replace hx148_0:=(HB.out.cell (World.block_lt_of_cell? w _ hx148_0)).trans hx148_0;have HR148_0:=Aside0.mk hi148_0;have HC148_0:=Aside0.mk hl148_0;clear hi148_0 hl148_0;replace p148:=eq_true p148;replace q148:=eq_true q148;have p149 : 0 ≤ ((rd l2 x13_1) : Int):=of_decide_eq_true (by first|(with_reducible assumption)|assumption);have q149 : (rd l2 x13_1) < ((rd_L1 l0_3 x1_1).length : Int):=of_decide_eq_true (by first|(with_reducible assumption)|assumption);obtain ⟨ad149,e149,hx149_0⟩:=Kd.at_int HR148_0.out (rd l2 x13_1) p149 q149;cases e149;replace hx149_0:=(HB.out.cell (World.block_lt_of_cell? w _ hx149_0)).trans hx149_0;replace p149:=eq_true p149;replace q149:=eq_true q149))
             go_roundg k1
             case measure=>have:=HK1.out;omega
             case rel=>exact ⟨(rd (rd_L1 l0_3 x1_1) (rd l2 x13_1)),(y145),(wrap64 (x13_1 + 1)),(by first|rfl|(simp;done)|(simp [*];done)),(by first|rfl|(simp;done)|(simp [*];done)),H',⟨by have:=HK1.out;omega⟩,⟨by (with_reducible repeat (first|apply Kd.R_alloc|apply Kd.R_drewN|apply Kd.R_drew));exact HO147.out⟩,⟨by (with_reducible repeat (first|refine blk_drewN ?_ _|refine blk_drew ?_|refine blk_alloc ?_ _));exact BK141.out⟩,⟨by repeat (first|(with_reducible first|exact HB.out|apply below_alloc|apply pw_below_drewN|apply below_drew1|refine below_set ?_ GE141.out)|exact HB.out)⟩⟩
            ·rw [if_neg c14] at H
             exact absurd H (by simp)
           ·rw [if_neg c13] at H
            exact absurd H (by simp)
          ·rw [if_neg c12] at H
           exact absurd H (by simp)
         ·rw [if_neg c11] at H
          exact absurd H (by simp)
        ·rw [if_neg c10] at H
         exact absurd H (by simp)
       ·rw [if_neg c9] at H
        exact absurd H (by simp)
      ·rw [if_neg c8] at H
       exact absurd H (by simp)
     ·rw [if_neg c7] at H
      exact absurd H (by simp)
    ·rw [if_neg c6] at H
     exact absurd H (by simp)
   ·rw [if_neg c5] at H
    have c5b0 : decide (x13_1 < (l2.length : Int)) = false:=decide_eq_false c5
    clear c5
    simp only [Option.some.injEq,Prod.mk.injEq] at H
    obtain ⟨rfl,rfl⟩:=H
    go_wp2
    go_ret2
    exact ⟨_,by first|rfl|(simp [errW_none,errW_some] <;> rfl)|(simp [*,errW_none,errW_some] <;> rfl),by (with_reducible repeat (first|apply Kd.R_alloc|apply Kd.R_drewN|apply Kd.R_drew));exact HO_8.out,by repeat (first|(with_reducible first|exact HB.out|apply below_alloc|apply pw_below_drewN|apply below_drew1|refine below_set ?_ GE141.out)|exact HB.out)⟩
/-! ### turner_Run: function 23 -/
def turner_Run.f (k : Nat) (a0_0 : Int) (a0_1 : Int) (a0_2 : Int) (l0_3 : List (List Int)) (l0_4 : List (List (List Int))) (a0_5 : Int) (l1 : List Int) : Option (List Int × Int):=(turner_Check.f k a0_0 a0_1 a0_2 l0_3 l0_4 a0_5).bind fun t151=>(if t151 = 0 then ((machine_Words.f a0_1 l1).bind fun t152=>(if t152 = 0 then ((turner_write.f k a0_0 a0_1 a0_2 l0_3 l0_4 a0_5 a0_5 l1).bind fun bt153=>(some (bt153.1,0))) else (some (([] : List Int),t152)))) else (some (([] : List Int),t151)))
theorem turner_Run.mono : ∀ a0 a1 a2 a3 a4 a5 a6 k,LeO (turner_Run.f k a0 a1 a2 a3 a4 a5 a6) (turner_Run.f (k + 1) a0 a1 a2 a3 a4 a5 a6):=by
 intro a0 a1 a2 a3 a4 a5 a6 k
 unfold turner_Run.f
 repeat' first
   | (with_reducible exact turner_Check.mono _ _ _ _ _ _ _)
   | (with_reducible exact turner_write.mono _ _ _ _ _ _ _ _ _)
   | (with_reducible exact LeO.refl _)
   | (with_reducible exact LeO.none _)
   | (with_reducible refine LeO.ite ?_ ?_)
   | (with_reducible refine LeO.bind ?_ (fun _=>?_))
   | exact turner_Check.mono _ _ _ _ _ _ _
   | exact turner_write.mono _ _ _ _ _ _ _ _ _
   | exact LeO.none _
   | refine LeO.ite ?_ ?_
   | refine LeO.bind ?_ (fun _=>?_)
set_option maxHeartbeats 8000000 in
set_option maxRecDepth 100000 in
theorem turner_Run.calls (k : Nat) (a0_0 : Int) (a0_1 : Int) (a0_2 : Int) (A0_3 : Option Addr) (c0_3 : Nat) (l0_3 : List (List Int)) (A0_4 : Option Addr) (c0_4 : Nat) (l0_4 : List (List (List Int))) (a0_5 : Int) (A1 : Option Addr) (c1 : Nat) (l1 : List Int) (r1 : List Int) (r2 : Int) (w : World) (hr0_3 : Kd.C (Kd.slice 3 (Kd.int .i64)) w A0_3 l0_3.length l0_3) (hc0_3 : l0_3.length ≤ c0_3) (hr0_4 : Kd.C (Kd.slice 28 (Kd.slice 3 (Kd.int .i64))) w A0_4 l0_4.length l0_4) (hc0_4 : l0_4.length ≤ c0_4) (hr1 : Kd.C (Kd.int .i64) w A1 l1.length l1) (hc1 : l1.length ≤ c1) (h : turner_Run.f k a0_0 a0_1 a0_2 l0_3 l0_4 a0_5 l1 = some (r1,r2)) :
  Calls Try.prog 23 #[.agg #[.int .i64 a0_0,.int .i64 a0_1,.int .i64 a0_2,.slice A0_3 l0_3.length c0_3,.slice A0_4 l0_4.length c0_4,.int .i64 a0_5],.slice A1 l1.length c1] w fun e w'=>∃ v0_ : Value,e = .returned (.tuple #[v0_,.int .i64 r2]) ∧ Kd.R (Kd.int .i64) 3 w' w.heap.size (fun _=>True) v0_ r1 ∧ Below w.heap.size w w':=by
 have hu50:=Try.underlying50
 have HR0_3:=Aside0.mk hr0_3
 have HC0_3:=Aside0.mk hc0_3
 clear hr0_3 hc0_3
 have HR0_4:=Aside0.mk hr0_4
 have HC0_4:=Aside0.mk hc0_4
 clear hr0_4 hc0_4
 have HR1:=Aside0.mk hr1
 have HC1:=Aside0.mk hc1
 clear hr1 hc1
 have HB:=Aside0.mk (Below.refl w.heap.size w)
 have H : ((turner_Check.f k a0_0 a0_1 a0_2 l0_3 l0_4 a0_5).bind fun t151=>(if t151 = 0 then ((machine_Words.f a0_1 l1).bind fun t152=>(if t152 = 0 then ((turner_write.f k a0_0 a0_1 a0_2 l0_3 l0_4 a0_5 a0_5 l1).bind fun bt153=>(some (bt153.1,0))) else (some (([] : List Int),t152)))) else (some (([] : List Int),t151)))) = some (r1,r2):=h
 clear h
 replace H:=Option.bind_eq_some_iff.mp H
 obtain ⟨t151,A30,H⟩:=H
 replace H : (if t151 = 0 then ((machine_Words.f a0_1 l1).bind fun t152=>(if t152 = 0 then ((turner_write.f k a0_0 a0_1 a0_2 l0_3 l0_4 a0_5 a0_5 l1).bind fun bt153=>(some (bt153.1,0))) else (some (([] : List Int),t152)))) else (some (([] : List Int),t151))) = some (r1,r2):=H
 have A3:=Aside0.mk A30
 clear A30
 by_cases c4 : t151 = 0
 ·rw [if_pos c4] at H
  have c4b0 : (t151 == 0) = true:=beq_iff_eq.mpr c4
  have c4b1 : (t151 != 0) = false:=bne_eq_false_iff_eq.mpr c4
  clear c4
  replace H:=Option.bind_eq_some_iff.mp H
  obtain ⟨t152,A50,H⟩:=H
  replace H : (if t152 = 0 then ((turner_write.f k a0_0 a0_1 a0_2 l0_3 l0_4 a0_5 a0_5 l1).bind fun bt153=>(some (bt153.1,0))) else (some (([] : List Int),t152))) = some (r1,r2):=H
  have A5:=Aside0.mk A50
  clear A50
  by_cases c6 : t152 = 0
  ·rw [if_pos c6] at H
   have c6b0 : (t152 == 0) = true:=beq_iff_eq.mpr c6
   have c6b1 : (t152 != 0) = false:=bne_eq_false_iff_eq.mpr c6
   clear c6
   replace H:=Option.bind_eq_some_iff.mp H
   obtain ⟨⟨t153,t156⟩,A70,H⟩:=H
   replace H : (some (t153,0)) = some (r1,r2):=H
   have A7:=Aside0.mk A70
   clear A70
   simp only [Option.some.injEq,Prod.mk.injEq] at H
   obtain ⟨rfl,rfl⟩:=H
   go_enter Try.func23,Try.ntmps23
   go_wp2_with (first|((with_reducible refine gate_dst (N:=2) rfl ?_);refine box_event ?hg (N:=2) ?hd (cs:=#[.int .i64 a0_0,.int .i64 a0_1,.int .i64 a0_2,.slice A0_3 l0_3.length c0_3,.slice A0_4 l0_4.length c0_4,.int .i64 a0_5]) (t:=50) ?hr ?_;(case hd=>rfl);(case hg=>rfl);(case hr=>first|(go_simp;done)|(go_simp;rfl));intro gb150 hg w8 hbox hb;have n0_:=Aside0.mk (below_step (by repeat (first|(with_reducible first|exact HB.out|apply below_alloc|apply pw_below_drewN|apply below_drew1)|exact HB.out)) hb);have n1_:=Aside0.mk (hbox);have n2_:=Aside0.mk ((by rw [hg];exact (below_size (by repeat (first|(with_reducible first|exact HB.out|apply below_alloc|apply pw_below_drewN|apply below_drew1)|exact HB.out))) : w.heap.size ≤ gb150));have n3_:=Aside0.mk ((by rw [hg];exact (below_size (by repeat (first|(with_reducible first|exact HB.out|apply below_alloc|apply pw_below_drewN|apply below_drew1)|exact HB.out))) : w.heap.size ≤ gb150));clear HB;have HB:=n0_;have BK150:=n1_;have GW150:=n2_;have GE150:=n3_;clear n0_ n1_ n2_ n3_;clear hb hbox hg;have hcz9_0 : w8.cell? ⟨gb150,0,none⟩ = some (.int .i64 a0_0):=(blk_cell BK150.out 0).trans rfl;have hcz9_1 : w8.cell? ⟨gb150,1,none⟩ = some (.int .i64 a0_1):=(blk_cell BK150.out 1).trans rfl;have hcz9_2 : w8.cell? ⟨gb150,2,none⟩ = some (.int .i64 a0_2):=(blk_cell BK150.out 2).trans rfl;have hcz9_3 : w8.cell? ⟨gb150,3,none⟩ = some (.slice A0_3 l0_3.length c0_3):=(blk_cell BK150.out 3).trans rfl;have hcz9_4 : w8.cell? ⟨gb150,4,none⟩ = some (.slice A0_4 l0_4.length c0_4):=(blk_cell BK150.out 4).trans rfl;have hcz9_5 : w8.cell? ⟨gb150,5,none⟩ = some (.int .i64 a0_5):=(blk_cell BK150.out 5).trans rfl;have hfz9_0:=blk_frozen BK150.out 0;have hfz9_1:=blk_frozen BK150.out 1;have hfz9_2:=blk_frozen BK150.out 2;have hfz9_3:=blk_frozen BK150.out 3;have hfz9_4:=blk_frozen BK150.out 4;have hfz9_5:=blk_frozen BK150.out 5)|((with_reducible refine gate_callee (f:=46) rfl ?_);refine goesL_ (some 11) rfl rfl Try.func46 (by kernel_rfl) rfl #[.agg #[.int .i64 a0_0,.int .i64 a0_1,.int .i64 a0_2,.slice A0_3 l0_3.length c0_3,.slice A0_4 l0_4.length c0_4,.int .i64 a0_5]] rfl (by (try simp only [List.map_toArray,List.map_cons,List.map_nil]);first|done|rfl|(simp only [List.length_drop,List.length_take];rfl)) ?_;(with_reducible refine (turner_Check.calls k a0_0 a0_1 a0_2 _ _ l0_3 _ _ l0_4 a0_5 t151 _ ?side1 ?side2 ?side3 ?side4 A3.out).mono ?_);(case side1=>repeat (first|exact (Kd.C_below HR0_3.out HB.out)|(with_reducible refine Kd.C_alloc ?_ _)|(with_reducible refine Kd.C_drewN ?_ _)|(with_reducible refine Kd.C_drew ?_)));(case side2=>exact HC0_3.out);(case side3=>repeat (first|exact (Kd.C_below HR0_4.out HB.out)|(with_reducible refine Kd.C_alloc ?_ _)|(with_reducible refine Kd.C_drewN ?_ _)|(with_reducible refine Kd.C_drew ?_)));(case side4=>exact HC0_4.out);rintro e w10 ⟨rfl,hb⟩;refine ⟨_,rfl,?_⟩;have n0_:=Aside0.mk (blk_below (g:=gb150) (o:=.cells #[.int .i64 a0_0,.int .i64 a0_1,.int .i64 a0_2,.slice A0_3 l0_3.length c0_3,.slice A0_4 l0_4.length c0_4,.int .i64 a0_5] 50 (0,0)) (by (with_reducible repeat (first|refine blk_drewN ?_ _|refine blk_drew ?_|refine blk_alloc ?_ _));exact BK150.out) hb);have n1_:=Aside0.mk (below_step (by repeat (first|(with_reducible first|exact HB.out|apply below_alloc|apply pw_below_drewN|apply below_drew1|refine below_set ?_ GE150.out)|exact HB.out)) hb);clear BK150;clear HB;have BK150:=n0_;have HB:=n1_;clear n0_ n1_;(try clear hb);(try clear hb2);(try clear hk);(try clear hi);have hcz11_0 : w10.cell? ⟨gb150,0,none⟩ = some (.int .i64 a0_0):=(blk_cell BK150.out 0).trans rfl;have hcz11_1 : w10.cell? ⟨gb150,1,none⟩ = some (.int .i64 a0_1):=(blk_cell BK150.out 1).trans rfl;have hcz11_2 : w10.cell? ⟨gb150,2,none⟩ = some (.int .i64 a0_2):=(blk_cell BK150.out 2).trans rfl;have hcz11_3 : w10.cell? ⟨gb150,3,none⟩ = some (.slice A0_3 l0_3.length c0_3):=(blk_cell BK150.out 3).trans rfl;have hcz11_4 : w10.cell? ⟨gb150,4,none⟩ = some (.slice A0_4 l0_4.length c0_4):=(blk_cell BK150.out 4).trans rfl;have hcz11_5 : w10.cell? ⟨gb150,5,none⟩ = some (.int .i64 a0_5):=(blk_cell BK150.out 5).trans rfl;have hfz11_0:=blk_frozen BK150.out 0;have hfz11_1:=blk_frozen BK150.out 1;have hfz11_2:=blk_frozen BK150.out 2;have hfz11_3:=blk_frozen BK150.out 3;have hfz11_4:=blk_frozen BK150.out 4;have hfz11_5:=blk_frozen BK150.out 5)|((with_reducible refine gate_callee (f:=41) rfl ?_);refine goesL_ (some 18) rfl rfl Try.func41 (by kernel_rfl) rfl #[.int .i64 a0_1,.slice A1 l1.length c1] rfl (by (try simp only [List.map_toArray,List.map_cons,List.map_nil]);first|done|rfl|(simp only [List.length_drop,List.length_take];rfl)) ?_;(with_reducible refine (machine_Words.calls a0_1 _ _ l1 t152 _ ?side1 ?side2 A5.out).mono ?_);(case side1=>repeat (first|exact (Kd.C_below HR1.out HB.out)|(with_reducible refine Kd.C_alloc ?_ _)|(with_reducible refine Kd.C_drewN ?_ _)|(with_reducible refine Kd.C_drew ?_)));(case side2=>exact HC1.out);rintro e w12 ⟨rfl,hb⟩;refine ⟨_,rfl,?_⟩;have n0_:=Aside0.mk (blk_below (g:=gb150) (o:=.cells #[.int .i64 a0_0,.int .i64 a0_1,.int .i64 a0_2,.slice A0_3 l0_3.length c0_3,.slice A0_4 l0_4.length c0_4,.int .i64 a0_5] 50 (0,0)) (by (with_reducible repeat (first|refine blk_drewN ?_ _|refine blk_drew ?_|refine blk_alloc ?_ _));exact BK150.out) hb);have n1_:=Aside0.mk (below_step (by repeat (first|(with_reducible first|exact HB.out|apply below_alloc|apply pw_below_drewN|apply below_drew1|refine below_set ?_ GE150.out)|exact HB.out)) hb);clear BK150;clear HB;have BK150:=n0_;have HB:=n1_;clear n0_ n1_;(try clear hb);(try clear hb2);(try clear hk);(try clear hi);have hcz13_0 : w12.cell? ⟨gb150,0,none⟩ = some (.int .i64 a0_0):=(blk_cell BK150.out 0).trans rfl;have hcz13_1 : w12.cell? ⟨gb150,1,none⟩ = some (.int .i64 a0_1):=(blk_cell BK150.out 1).trans rfl;have hcz13_2 : w12.cell? ⟨gb150,2,none⟩ = some (.int .i64 a0_2):=(blk_cell BK150.out 2).trans rfl;have hcz13_3 : w12.cell? ⟨gb150,3,none⟩ = some (.slice A0_3 l0_3.length c0_3):=(blk_cell BK150.out 3).trans rfl;have hcz13_4 : w12.cell? ⟨gb150,4,none⟩ = some (.slice A0_4 l0_4.length c0_4):=(blk_cell BK150.out 4).trans rfl;have hcz13_5 : w12.cell? ⟨gb150,5,none⟩ = some (.int .i64 a0_5):=(blk_cell BK150.out 5).trans rfl;have hfz13_0:=blk_frozen BK150.out 0;have hfz13_1:=blk_frozen BK150.out 1;have hfz13_2:=blk_frozen BK150.out 2;have hfz13_3:=blk_frozen BK150.out 3;have hfz13_4:=blk_frozen BK150.out 4;have hfz13_5:=blk_frozen BK150.out 5)|((with_reducible refine gate_callee (f:=47) rfl ?_);refine goesL_ (some 27) rfl rfl Try.func47 (by kernel_rfl) rfl #[.agg #[.int .i64 a0_0,.int .i64 a0_1,.int .i64 a0_2,.slice A0_3 l0_3.length c0_3,.slice A0_4 l0_4.length c0_4,.int .i64 a0_5],.int .i64 a0_5,.slice A1 l1.length c1] rfl (by (try simp only [List.map_toArray,List.map_cons,List.map_nil]);first|done|rfl|(simp only [List.length_drop,List.length_take];rfl)) ?_;(with_reducible refine (turner_write.calls k a0_0 a0_1 a0_2 _ _ l0_3 _ _ l0_4 a0_5 a0_5 _ _ l1 t153 t156 _ ?side1 ?side2 ?side3 ?side4 ?side5 ?side6 A7.out).mono ?_);(case side1=>repeat (first|exact (Kd.C_below HR0_3.out HB.out)|(with_reducible refine Kd.C_alloc ?_ _)|(with_reducible refine Kd.C_drewN ?_ _)|(with_reducible refine Kd.C_drew ?_)));(case side2=>exact HC0_3.out);(case side3=>repeat (first|exact (Kd.C_below HR0_4.out HB.out)|(with_reducible refine Kd.C_alloc ?_ _)|(with_reducible refine Kd.C_drewN ?_ _)|(with_reducible refine Kd.C_drew ?_)));(case side4=>exact HC0_4.out);(case side5=>repeat (first|exact (Kd.C_below HR1.out HB.out)|(with_reducible refine Kd.C_alloc ?_ _)|(with_reducible refine Kd.C_drewN ?_ _)|(with_reducible refine Kd.C_drew ?_)));(case side6=>exact HC1.out);rintro e w14 ⟨v154,rfl,ho0,hb⟩;refine ⟨_,rfl,?_⟩;have n0_:=Aside0.mk (Kd.R_lower ho0 (below_size (by repeat (first|(with_reducible first|exact HB.out|apply below_alloc|apply pw_below_drewN|apply below_drew1|refine below_set ?_ GE150.out)|exact HB.out))));have n1_:=Aside0.mk (blk_below (g:=gb150) (o:=.cells #[.int .i64 a0_0,.int .i64 a0_1,.int .i64 a0_2,.slice A0_3 l0_3.length c0_3,.slice A0_4 l0_4.length c0_4,.int .i64 a0_5] 50 (0,0)) (by (with_reducible repeat (first|refine blk_drewN ?_ _|refine blk_drew ?_|refine blk_alloc ?_ _));exact BK150.out) hb);have n2_:=Aside0.mk (below_step (by repeat (first|(with_reducible first|exact HB.out|apply below_alloc|apply pw_below_drewN|apply below_drew1|refine below_set ?_ GE150.out)|exact HB.out)) hb);clear BK150;clear HB;have HO155:=n0_;have BK150:=n1_;have HB:=n2_;clear n0_ n1_ n2_;(try clear hb);(try clear hb2);(try clear hk);(try clear hi);(try clear ho0)))
   go_ret2
   exact ⟨_,by first|rfl|(simp [errW_none,errW_some] <;> rfl)|(simp [*,errW_none,errW_some] <;> rfl),by (with_reducible repeat (first|apply Kd.R_alloc|apply Kd.R_drewN|apply Kd.R_drew));exact HO155.out,by repeat (first|(with_reducible first|exact HB.out|apply below_alloc|apply pw_below_drewN|apply below_drew1|refine below_set ?_ GE150.out)|exact HB.out)⟩
  ·rw [if_neg c6] at H
   have c6b0 : (t152 == 0) = false:=beq_eq_false_iff_ne.mpr c6
   have c6b1 : (t152 != 0) = true:=bne_iff_ne.mpr c6
   simp only [Option.some.injEq,Prod.mk.injEq] at H
   obtain ⟨rfl,rfl⟩:=H
   go_enter Try.func23,Try.ntmps23
   go_wp2_with (first|((with_reducible refine gate_dst (N:=2) rfl ?_);refine box_event ?hg (N:=2) ?hd (cs:=#[.int .i64 a0_0,.int .i64 a0_1,.int .i64 a0_2,.slice A0_3 l0_3.length c0_3,.slice A0_4 l0_4.length c0_4,.int .i64 a0_5]) (t:=50) ?hr ?_;(case hd=>rfl);(case hg=>rfl);(case hr=>first|(go_simp;done)|(go_simp;rfl));intro gb150 hg w15 hbox hb;have n0_:=Aside0.mk (below_step (by repeat (first|(with_reducible first|exact HB.out|apply below_alloc|apply pw_below_drewN|apply below_drew1)|exact HB.out)) hb);have n1_:=Aside0.mk (hbox);have n2_:=Aside0.mk ((by rw [hg];exact (below_size (by repeat (first|(with_reducible first|exact HB.out|apply below_alloc|apply pw_below_drewN|apply below_drew1)|exact HB.out))) : w.heap.size ≤ gb150));have n3_:=Aside0.mk ((by rw [hg];exact (below_size (by repeat (first|(with_reducible first|exact HB.out|apply below_alloc|apply pw_below_drewN|apply below_drew1)|exact HB.out))) : w.heap.size ≤ gb150));clear HB;have HB:=n0_;have BK150:=n1_;have GW150:=n2_;have GE150:=n3_;clear n0_ n1_ n2_ n3_;clear hb hbox hg;have hcz16_0 : w15.cell? ⟨gb150,0,none⟩ = some (.int .i64 a0_0):=(blk_cell BK150.out 0).trans rfl;have hcz16_1 : w15.cell? ⟨gb150,1,none⟩ = some (.int .i64 a0_1):=(blk_cell BK150.out 1).trans rfl;have hcz16_2 : w15.cell? ⟨gb150,2,none⟩ = some (.int .i64 a0_2):=(blk_cell BK150.out 2).trans rfl;have hcz16_3 : w15.cell? ⟨gb150,3,none⟩ = some (.slice A0_3 l0_3.length c0_3):=(blk_cell BK150.out 3).trans rfl;have hcz16_4 : w15.cell? ⟨gb150,4,none⟩ = some (.slice A0_4 l0_4.length c0_4):=(blk_cell BK150.out 4).trans rfl;have hcz16_5 : w15.cell? ⟨gb150,5,none⟩ = some (.int .i64 a0_5):=(blk_cell BK150.out 5).trans rfl;have hfz16_0:=blk_frozen BK150.out 0;have hfz16_1:=blk_frozen BK150.out 1;have hfz16_2:=blk_frozen BK150.out 2;have hfz16_3:=blk_frozen BK150.out 3;have hfz16_4:=blk_frozen BK150.out 4;have hfz16_5:=blk_frozen BK150.out 5)|((with_reducible refine gate_callee (f:=46) rfl ?_);refine goesL_ (some 11) rfl rfl Try.func46 (by kernel_rfl) rfl #[.agg #[.int .i64 a0_0,.int .i64 a0_1,.int .i64 a0_2,.slice A0_3 l0_3.length c0_3,.slice A0_4 l0_4.length c0_4,.int .i64 a0_5]] rfl (by (try simp only [List.map_toArray,List.map_cons,List.map_nil]);first|done|rfl|(simp only [List.length_drop,List.length_take];rfl)) ?_;(with_reducible refine (turner_Check.calls k a0_0 a0_1 a0_2 _ _ l0_3 _ _ l0_4 a0_5 t151 _ ?side1 ?side2 ?side3 ?side4 A3.out).mono ?_);(case side1=>repeat (first|exact (Kd.C_below HR0_3.out HB.out)|(with_reducible refine Kd.C_alloc ?_ _)|(with_reducible refine Kd.C_drewN ?_ _)|(with_reducible refine Kd.C_drew ?_)));(case side2=>exact HC0_3.out);(case side3=>repeat (first|exact (Kd.C_below HR0_4.out HB.out)|(with_reducible refine Kd.C_alloc ?_ _)|(with_reducible refine Kd.C_drewN ?_ _)|(with_reducible refine Kd.C_drew ?_)));(case side4=>exact HC0_4.out);rintro e w17 ⟨rfl,hb⟩;refine ⟨_,rfl,?_⟩;have n0_:=Aside0.mk (blk_below (g:=gb150) (o:=.cells #[.int .i64 a0_0,.int .i64 a0_1,.int .i64 a0_2,.slice A0_3 l0_3.length c0_3,.slice A0_4 l0_4.length c0_4,.int .i64 a0_5] 50 (0,0)) (by (with_reducible repeat (first|refine blk_drewN ?_ _|refine blk_drew ?_|refine blk_alloc ?_ _));exact BK150.out) hb);have n1_:=Aside0.mk (below_step (by repeat (first|(with_reducible first|exact HB.out|apply below_alloc|apply pw_below_drewN|apply below_drew1|refine below_set ?_ GE150.out)|exact HB.out)) hb);clear BK150;clear HB;have BK150:=n0_;have HB:=n1_;clear n0_ n1_;(try clear hb);(try clear hb2);(try clear hk);(try clear hi);have hcz18_0 : w17.cell? ⟨gb150,0,none⟩ = some (.int .i64 a0_0):=(blk_cell BK150.out 0).trans rfl;have hcz18_1 : w17.cell? ⟨gb150,1,none⟩ = some (.int .i64 a0_1):=(blk_cell BK150.out 1).trans rfl;have hcz18_2 : w17.cell? ⟨gb150,2,none⟩ = some (.int .i64 a0_2):=(blk_cell BK150.out 2).trans rfl;have hcz18_3 : w17.cell? ⟨gb150,3,none⟩ = some (.slice A0_3 l0_3.length c0_3):=(blk_cell BK150.out 3).trans rfl;have hcz18_4 : w17.cell? ⟨gb150,4,none⟩ = some (.slice A0_4 l0_4.length c0_4):=(blk_cell BK150.out 4).trans rfl;have hcz18_5 : w17.cell? ⟨gb150,5,none⟩ = some (.int .i64 a0_5):=(blk_cell BK150.out 5).trans rfl;have hfz18_0:=blk_frozen BK150.out 0;have hfz18_1:=blk_frozen BK150.out 1;have hfz18_2:=blk_frozen BK150.out 2;have hfz18_3:=blk_frozen BK150.out 3;have hfz18_4:=blk_frozen BK150.out 4;have hfz18_5:=blk_frozen BK150.out 5)|((with_reducible refine gate_callee (f:=41) rfl ?_);refine goesL_ (some 18) rfl rfl Try.func41 (by kernel_rfl) rfl #[.int .i64 a0_1,.slice A1 l1.length c1] rfl (by (try simp only [List.map_toArray,List.map_cons,List.map_nil]);first|done|rfl|(simp only [List.length_drop,List.length_take];rfl)) ?_;(with_reducible refine (machine_Words.calls a0_1 _ _ l1 t152 _ ?side1 ?side2 A5.out).mono ?_);(case side1=>repeat (first|exact (Kd.C_below HR1.out HB.out)|(with_reducible refine Kd.C_alloc ?_ _)|(with_reducible refine Kd.C_drewN ?_ _)|(with_reducible refine Kd.C_drew ?_)));(case side2=>exact HC1.out);rintro e w19 ⟨rfl,hb⟩;refine ⟨_,rfl,?_⟩;have n0_:=Aside0.mk (blk_below (g:=gb150) (o:=.cells #[.int .i64 a0_0,.int .i64 a0_1,.int .i64 a0_2,.slice A0_3 l0_3.length c0_3,.slice A0_4 l0_4.length c0_4,.int .i64 a0_5] 50 (0,0)) (by (with_reducible repeat (first|refine blk_drewN ?_ _|refine blk_drew ?_|refine blk_alloc ?_ _));exact BK150.out) hb);have n1_:=Aside0.mk (below_step (by repeat (first|(with_reducible first|exact HB.out|apply below_alloc|apply pw_below_drewN|apply below_drew1|refine below_set ?_ GE150.out)|exact HB.out)) hb);clear BK150;clear HB;have BK150:=n0_;have HB:=n1_;clear n0_ n1_;(try clear hb);(try clear hb2);(try clear hk);(try clear hi)))
   go_ret2
   exact ⟨_,by first|rfl|(simp [errW_none,errW_some] <;> rfl)|(simp [*,errW_none,errW_some] <;> rfl),by first|exact Kd.R_nil _ _ _ _ _|exact Kd.N_nil _ _ _ _ _|exact Kd.V_nil _ _ _ _ _|exact Kd.Q_nil _ _ _ _ _|exact Kd.S_nil _ _ _ _ _,by repeat (first|(with_reducible first|exact HB.out|apply below_alloc|apply pw_below_drewN|apply below_drew1|refine below_set ?_ GE150.out)|exact HB.out)⟩
 ·rw [if_neg c4] at H
  have c4b0 : (t151 == 0) = false:=beq_eq_false_iff_ne.mpr c4
  have c4b1 : (t151 != 0) = true:=bne_iff_ne.mpr c4
  simp only [Option.some.injEq,Prod.mk.injEq] at H
  obtain ⟨rfl,rfl⟩:=H
  go_enter Try.func23,Try.ntmps23
  go_wp2_with (first|((with_reducible refine gate_dst (N:=2) rfl ?_);refine box_event ?hg (N:=2) ?hd (cs:=#[.int .i64 a0_0,.int .i64 a0_1,.int .i64 a0_2,.slice A0_3 l0_3.length c0_3,.slice A0_4 l0_4.length c0_4,.int .i64 a0_5]) (t:=50) ?hr ?_;(case hd=>rfl);(case hg=>rfl);(case hr=>first|(go_simp;done)|(go_simp;rfl));intro gb150 hg w20 hbox hb;have n0_:=Aside0.mk (below_step (by repeat (first|(with_reducible first|exact HB.out|apply below_alloc|apply pw_below_drewN|apply below_drew1)|exact HB.out)) hb);have n1_:=Aside0.mk (hbox);have n2_:=Aside0.mk ((by rw [hg];exact (below_size (by repeat (first|(with_reducible first|exact HB.out|apply below_alloc|apply pw_below_drewN|apply below_drew1)|exact HB.out))) : w.heap.size ≤ gb150));have n3_:=Aside0.mk ((by rw [hg];exact (below_size (by repeat (first|(with_reducible first|exact HB.out|apply below_alloc|apply pw_below_drewN|apply below_drew1)|exact HB.out))) : w.heap.size ≤ gb150));clear HB;have HB:=n0_;have BK150:=n1_;have GW150:=n2_;have GE150:=n3_;clear n0_ n1_ n2_ n3_;clear hb hbox hg;have hcz21_0 : w20.cell? ⟨gb150,0,none⟩ = some (.int .i64 a0_0):=(blk_cell BK150.out 0).trans rfl;have hcz21_1 : w20.cell? ⟨gb150,1,none⟩ = some (.int .i64 a0_1):=(blk_cell BK150.out 1).trans rfl;have hcz21_2 : w20.cell? ⟨gb150,2,none⟩ = some (.int .i64 a0_2):=(blk_cell BK150.out 2).trans rfl;have hcz21_3 : w20.cell? ⟨gb150,3,none⟩ = some (.slice A0_3 l0_3.length c0_3):=(blk_cell BK150.out 3).trans rfl;have hcz21_4 : w20.cell? ⟨gb150,4,none⟩ = some (.slice A0_4 l0_4.length c0_4):=(blk_cell BK150.out 4).trans rfl;have hcz21_5 : w20.cell? ⟨gb150,5,none⟩ = some (.int .i64 a0_5):=(blk_cell BK150.out 5).trans rfl;have hfz21_0:=blk_frozen BK150.out 0;have hfz21_1:=blk_frozen BK150.out 1;have hfz21_2:=blk_frozen BK150.out 2;have hfz21_3:=blk_frozen BK150.out 3;have hfz21_4:=blk_frozen BK150.out 4;have hfz21_5:=blk_frozen BK150.out 5)|((with_reducible refine gate_callee (f:=46) rfl ?_);refine goesL_ (some 11) rfl rfl Try.func46 (by kernel_rfl) rfl #[.agg #[.int .i64 a0_0,.int .i64 a0_1,.int .i64 a0_2,.slice A0_3 l0_3.length c0_3,.slice A0_4 l0_4.length c0_4,.int .i64 a0_5]] rfl (by (try simp only [List.map_toArray,List.map_cons,List.map_nil]);first|done|rfl|(simp only [List.length_drop,List.length_take];rfl)) ?_;(with_reducible refine (turner_Check.calls k a0_0 a0_1 a0_2 _ _ l0_3 _ _ l0_4 a0_5 t151 _ ?side1 ?side2 ?side3 ?side4 A3.out).mono ?_);(case side1=>repeat (first|exact (Kd.C_below HR0_3.out HB.out)|(with_reducible refine Kd.C_alloc ?_ _)|(with_reducible refine Kd.C_drewN ?_ _)|(with_reducible refine Kd.C_drew ?_)));(case side2=>exact HC0_3.out);(case side3=>repeat (first|exact (Kd.C_below HR0_4.out HB.out)|(with_reducible refine Kd.C_alloc ?_ _)|(with_reducible refine Kd.C_drewN ?_ _)|(with_reducible refine Kd.C_drew ?_)));(case side4=>exact HC0_4.out);rintro e w22 ⟨rfl,hb⟩;refine ⟨_,rfl,?_⟩;have n0_:=Aside0.mk (blk_below (g:=gb150) (o:=.cells #[.int .i64 a0_0,.int .i64 a0_1,.int .i64 a0_2,.slice A0_3 l0_3.length c0_3,.slice A0_4 l0_4.length c0_4,.int .i64 a0_5] 50 (0,0)) (by (with_reducible repeat (first|refine blk_drewN ?_ _|refine blk_drew ?_|refine blk_alloc ?_ _));exact BK150.out) hb);have n1_:=Aside0.mk (below_step (by repeat (first|(with_reducible first|exact HB.out|apply below_alloc|apply pw_below_drewN|apply below_drew1|refine below_set ?_ GE150.out)|exact HB.out)) hb);clear BK150;clear HB;have BK150:=n0_;have HB:=n1_;clear n0_ n1_;(try clear hb);(try clear hb2);(try clear hk);(try clear hi)))
  go_ret2
  exact ⟨_,by first|rfl|(simp [errW_none,errW_some] <;> rfl)|(simp [*,errW_none,errW_some] <;> rfl),by first|exact Kd.R_nil _ _ _ _ _|exact Kd.N_nil _ _ _ _ _|exact Kd.V_nil _ _ _ _ _|exact Kd.Q_nil _ _ _ _ _|exact Kd.S_nil _ _ _ _ _,by repeat (first|(with_reducible first|exact HB.out|apply below_alloc|apply pw_below_drewN|apply below_drew1|refine below_set ?_ GE150.out)|exact HB.out)⟩
end Go.Proofs.Ytiiankjmeodjdaa.GV
