-- Written by ext.py, a program of this session.
import Derived.Test.YtllnipefceonmaaGA0
import Derived.Test.YtllnipefceonmaaGA15
import Derived.Test.YtllnipefceonmaaGA16
namespace Go.Proofs.Ytllnipefceonmaa.GA
open Go.RowKit Go.Proofs.YtllnipefceonmaaW.PrintWords Go.Proofs.YtllnipefceonmaaW.PrintLast Go.Proofs.YtllnipefceonmaaW.PrintMore
attribute [local go_sem] max2_int min2_int max_two min_two max_three min_three max_four min_four cellIs_set   -- for this text's walks alone
set_option linter.unusedVariables false
set_option linter.unusedSimpArgs false
/-! ### net_Sets: function 14 -/
mutual
def net_Sets.l0 : Nat → List Int → List (List Int) → Int → Int → Int → List (S45) → Int → Int → Option (List Int × (List (List Int)))
 | 0,_,_,_,_,_,_,_,_=>none
 | k + 1,x4,x5,x6,x219000,x219001,x219002,x219003,x219004=>if x6 < (x4.length : Int) then (net_Sets.l1 k x4 x5 x6 ([] : List Int) x219001 0 x219000 x219001 x219002 x219003 x219004) else (some (x4,x5))
def net_Sets.l1 : Nat → List Int → List (List Int) → Int → List Int → Int → Int → Int → Int → List (S45) → Int → Int → Option (List Int × (List (List Int)))
 | 0,_,_,_,_,_,_,_,_,_,_,_=>none
 | k + 1,x4,x5,x6,x7,x23,x24,x219000,x219001,x219002,x219003,x219004=>if x24 < x23 then (if 0 ≤ x6 then (if x6 < (x4.length : Int) then ((net_Step.f k x219000 x219001 x219002 x219003 x219004 (rd x4 x6) x24).bind fun t227=>((slices_Index_uint32_uint32.f k x4 t227).bind fun t228=>(if t228 < 0 then (if x4.length < 35184372088832 then (if x7.length < 17592186044416 then (net_Sets.l1 k (x4 ++ [t227]) x5 x6 (x7 ++ [(x4.length : Int)]) x23 (wrap64 (x24 + 1)) x219000 x219001 x219002 x219003 x219004) else (none)) else (none)) else (if x7.length < 17592186044416 then (net_Sets.l1 k x4 x5 x6 (x7 ++ [t228]) x23 (wrap64 (x24 + 1)) x219000 x219001 x219002 x219003 x219004) else (none))))) else (none)) else (none)) else (if x5.length < 5864062014805 then (net_Sets.l0 k x4 (x5 ++ [x7]) (wrap64 (x6 + 1)) x219000 x219001 x219002 x219003 x219004) else (none))
end
def net_Sets.f (k : Nat) (a0_0 : Int) (a0_1 : Int) (l0_2 : List (S45)) (a0_3 : Int) (a0_4 : Int) : Option (List Int × (List (List Int))):=(net_Free.f k a0_0 a0_1 l0_2 a0_3 a0_4 a0_3).bind fun t219=>(net_Sets.l0 k (([t219] : List Int)) ([] : List (List Int)) 0 a0_0 a0_1 l0_2 a0_3 a0_4)
theorem net_Sets.mono_l : ∀ k,(∀ y0 y1 y2 y3 y4 y5 y6 y7,LeO (net_Sets.l0 k y0 y1 y2 y3 y4 y5 y6 y7) (net_Sets.l0 (k + 1) y0 y1 y2 y3 y4 y5 y6 y7)) ∧ (∀ y0 y1 y2 y3 y4 y5 y6 y7 y8 y9 y10,LeO (net_Sets.l1 k y0 y1 y2 y3 y4 y5 y6 y7 y8 y9 y10) (net_Sets.l1 (k + 1) y0 y1 y2 y3 y4 y5 y6 y7 y8 y9 y10))
 | 0=>⟨fun _ _ _ _ _ _ _ _ r h=>by simp [net_Sets.l0] at h,fun _ _ _ _ _ _ _ _ _ _ _ r h=>by simp [net_Sets.l1] at h⟩
 | k + 1=>by
  obtain ⟨ih0,ih1⟩:=net_Sets.mono_l k
  refine ⟨?_,?_⟩
  ·intro y0 y1 y2 y3 y4 y5 y6 y7
   unfold net_Sets.l0
   repeat' first
   | (with_reducible exact ih0 _ _ _ _ _ _ _ _)
   | (with_reducible exact ih1 _ _ _ _ _ _ _ _ _ _ _)
   | (with_reducible exact net_Free.mono _ _ _ _ _ _ _)
   | (with_reducible exact net_Step.mono _ _ _ _ _ _ _ _)
   | (with_reducible exact slices_Index_uint32_uint32.mono _ _ _)
   | (with_reducible exact LeO.refl _)
   | (with_reducible exact LeO.none _)
   | (with_reducible refine LeO.ite ?_ ?_)
   | (with_reducible refine LeO.bind ?_ (fun _=>?_))
   | exact ih0 _ _ _ _ _ _ _ _
   | exact ih1 _ _ _ _ _ _ _ _ _ _ _
   | exact net_Free.mono _ _ _ _ _ _ _
   | exact net_Step.mono _ _ _ _ _ _ _ _
   | exact slices_Index_uint32_uint32.mono _ _ _
   | exact LeO.none _
   | refine LeO.ite ?_ ?_
   | refine LeO.bind ?_ (fun _=>?_)
  ·intro y0 y1 y2 y3 y4 y5 y6 y7 y8 y9 y10
   unfold net_Sets.l1
   repeat' first
   | (with_reducible exact ih0 _ _ _ _ _ _ _ _)
   | (with_reducible exact ih1 _ _ _ _ _ _ _ _ _ _ _)
   | (with_reducible exact net_Free.mono _ _ _ _ _ _ _)
   | (with_reducible exact net_Step.mono _ _ _ _ _ _ _ _)
   | (with_reducible exact slices_Index_uint32_uint32.mono _ _ _)
   | (with_reducible exact LeO.refl _)
   | (with_reducible exact LeO.none _)
   | (with_reducible refine LeO.ite ?_ ?_)
   | (with_reducible refine LeO.bind ?_ (fun _=>?_))
   | exact ih0 _ _ _ _ _ _ _ _
   | exact ih1 _ _ _ _ _ _ _ _ _ _ _
   | exact net_Free.mono _ _ _ _ _ _ _
   | exact net_Step.mono _ _ _ _ _ _ _ _
   | exact slices_Index_uint32_uint32.mono _ _ _
   | exact LeO.none _
   | refine LeO.ite ?_ ?_
   | refine LeO.bind ?_ (fun _=>?_)
theorem net_Sets.mono : ∀ a0 a1 a2 a3 a4 k,LeO (net_Sets.f k a0 a1 a2 a3 a4) (net_Sets.f (k + 1) a0 a1 a2 a3 a4):=by
 intro a0 a1 a2 a3 a4 k
 obtain ⟨ih0,ih1⟩:=net_Sets.mono_l k
 unfold net_Sets.f
 repeat' first
   | (with_reducible exact ih0 _ _ _ _ _ _ _ _)
   | (with_reducible exact ih1 _ _ _ _ _ _ _ _ _ _ _)
   | (with_reducible exact net_Free.mono _ _ _ _ _ _ _)
   | (with_reducible exact net_Step.mono _ _ _ _ _ _ _ _)
   | (with_reducible exact slices_Index_uint32_uint32.mono _ _ _)
   | (with_reducible exact LeO.refl _)
   | (with_reducible exact LeO.none _)
   | (with_reducible refine LeO.ite ?_ ?_)
   | (with_reducible refine LeO.bind ?_ (fun _=>?_))
   | exact ih0 _ _ _ _ _ _ _ _
   | exact ih1 _ _ _ _ _ _ _ _ _ _ _
   | exact net_Free.mono _ _ _ _ _ _ _
   | exact net_Step.mono _ _ _ _ _ _ _ _
   | exact slices_Index_uint32_uint32.mono _ _ _
   | exact LeO.none _
   | refine LeO.ite ?_ ?_
   | refine LeO.bind ?_ (fun _=>?_)
def net_Sets.T10 : Bool × List (List Nat × List Nat):=(true,[([],[]),([],[]),([],[]),([1,2],[1,2]),([3],[3]),([],[]),([0,4,5],[0,4,5]),([6,6,0,1,2,3,4,5,6],[6])])
def net_Sets.B10 : List Nat:=[0,0,0,6,14,0,63,127]
theorem net_Sets.tab10 : rtab .any (opsOf Try.f14 10) = net_Sets.T10:=by kernel_rfl
theorem net_Sets.bits10 : waitsOk net_Sets.T10.2 net_Sets.B10 = true:=by kernel_rfl
set_option maxHeartbeats 8000000 in
set_option maxRecDepth 100000 in
theorem net_Sets.calls (k : Nat) (a0_0 : Int) (a0_1 : Int) (A0_2 : Option Addr) (c0_2 : Nat) (l0_2 : List (S45)) (a0_3 : Int) (a0_4 : Int) (r1 : List Int) (r2 : List (List Int)) (w : World) (hr0_2 : Kd.C k45 w A0_2 l0_2.length l0_2) (hc0_2 : l0_2.length ≤ c0_2) (h : net_Sets.f k a0_0 a0_1 l0_2 a0_3 a0_4 = some (r1,r2)) :
  Calls Try.prog 14 #[.agg #[.int .i64 a0_0,.int .i64 a0_1,.slice A0_2 l0_2.length c0_2,.int .u32 a0_3,.int .u32 a0_4]] w fun e w'=>∃ v0_ v1_ : Value,e = .returned (.tuple #[v0_,v1_]) ∧ Kd.R (Kd.int .u32) 23 w' w.heap.size (fun _=>True) v0_ r1 ∧ Kd.S (Kd.slice 3 (Kd.int .i64)) 40 w' w.heap.size (fun _=>True) v1_ r2 ∧ Below w.heap.size w w':=by
 have hu32:=Try.underlying32
 have HR0_2:=Aside0.mk hr0_2
 have HC0_2:=Aside0.mk hc0_2
 clear hr0_2 hc0_2
 have HB:=Aside0.mk (Below.refl w.heap.size w)
 have H : ((net_Free.f k a0_0 a0_1 l0_2 a0_3 a0_4 a0_3).bind fun t219=>(net_Sets.l0 k (([t219] : List Int)) ([] : List (List Int)) 0 a0_0 a0_1 l0_2 a0_3 a0_4)) = some (r1,r2):=h
 clear h
 replace H:=Option.bind_eq_some_iff.mp H
 obtain ⟨t219,A20,H⟩:=H
 replace H : (net_Sets.l0 k (([t219] : List Int)) ([] : List (List Int)) 0 a0_0 a0_1 l0_2 a0_3 a0_4) = some (r1,r2):=H
 have A2:=Aside0.mk A20
 clear A20
 obtain ⟨y220,hy220⟩ : ∃ y_ : List Int,y_ = (([t219] : List Int)):=⟨_,rfl⟩
 replace H : (net_Sets.l0 k y220 ([] : List (List Int)) 0 a0_0 a0_1 l0_2 a0_3 a0_4) = some (r1,r2):=by first|(rw [hy220];with_reducible exact H)|(have H2_:=(Option.bind_some _ _).symm.trans H;rw [hy220];with_reducible exact H2_)|(have H2_:=(Option.bind_some _ _).symm.trans H;with_reducible exact H2_)|with_reducible exact H|(rw [hy220];exact H)|exact H
 have Ny220:=Aside0.mk hy220
 clear hy220
 have H':=Aside0.mk H
 clear H
 go_enter Try.func14,Try.ntmps14
 go_wp2_with (first|((with_reducible refine gate_dst (N:=1) rfl ?_);refine box_event ?hg (N:=1) ?hd (cs:=#[.int .i64 a0_0,.int .i64 a0_1,.slice A0_2 l0_2.length c0_2,.int .u32 a0_3,.int .u32 a0_4]) (t:=32) ?hr ?_;(case hd=>rfl);(case hg=>rfl);(case hr=>first|(go_simp;done)|(go_simp;rfl));intro gb218 hg w3 hbox hb;have n0_:=Aside0.mk (below_step (by repeat (first|(with_reducible first|exact HB.out|apply below_alloc|apply pw_below_drewN|apply below_drew1)|exact HB.out)) hb);have n1_:=Aside0.mk (hbox);have n2_:=Aside0.mk ((by rw [hg];exact (below_size (by repeat (first|(with_reducible first|exact HB.out|apply below_alloc|apply pw_below_drewN|apply below_drew1)|exact HB.out))) : w.heap.size ≤ gb218));have n3_:=Aside0.mk ((by rw [hg];exact (below_size (by repeat (first|(with_reducible first|exact HB.out|apply below_alloc|apply pw_below_drewN|apply below_drew1)|exact HB.out))) : w.heap.size ≤ gb218));clear HB;have HB:=n0_;have BK218:=n1_;have GW218:=n2_;have GE218:=n3_;clear n0_ n1_ n2_ n3_;clear hb hbox hg;have hcz4_0 : w3.cell? ⟨gb218,0,none⟩ = some (.int .i64 a0_0):=(blk_cell BK218.out 0).trans rfl;have hcz4_1 : w3.cell? ⟨gb218,1,none⟩ = some (.int .i64 a0_1):=(blk_cell BK218.out 1).trans rfl;have hcz4_2 : w3.cell? ⟨gb218,2,none⟩ = some (.slice A0_2 l0_2.length c0_2):=(blk_cell BK218.out 2).trans rfl;have hcz4_3 : w3.cell? ⟨gb218,3,none⟩ = some (.int .u32 a0_3):=(blk_cell BK218.out 3).trans rfl;have hcz4_4 : w3.cell? ⟨gb218,4,none⟩ = some (.int .u32 a0_4):=(blk_cell BK218.out 4).trans rfl;have hfz4_0:=blk_frozen BK218.out 0;have hfz4_1:=blk_frozen BK218.out 1;have hfz4_2:=blk_frozen BK218.out 2;have hfz4_3:=blk_frozen BK218.out 3;have hfz4_4:=blk_frozen BK218.out 4)|((with_reducible refine gate_callee (f:=21) rfl ?_);refine goesL_ (some 14) rfl rfl Try.func21 (by kernel_rfl) rfl #[.agg #[.int .i64 a0_0,.int .i64 a0_1,.slice A0_2 l0_2.length c0_2,.int .u32 a0_3,.int .u32 a0_4],.int .u32 a0_3] rfl (by (try simp only [List.map_toArray,List.map_cons,List.map_nil]);first|done|rfl|(simp only [List.length_drop,List.length_take];rfl)) ?_;(with_reducible refine (net_Free.calls k a0_0 a0_1 _ _ l0_2 a0_3 a0_4 a0_3 t219 _ ?side1 ?side2 A2.out).mono ?_);(case side1=>repeat (first|exact (Kd.C_below HR0_2.out HB.out)|(with_reducible refine Kd.C_alloc ?_ _)|(with_reducible refine Kd.C_drewN ?_ _)|(with_reducible refine Kd.C_drew ?_)));(case side2=>exact HC0_2.out);rintro e w5 ⟨rfl,hb⟩;refine ⟨_,rfl,?_⟩;have n0_:=Aside0.mk (blk_below (g:=gb218) (o:=.cells #[.int .i64 a0_0,.int .i64 a0_1,.slice A0_2 l0_2.length c0_2,.int .u32 a0_3,.int .u32 a0_4] 32 (0,0)) (by (with_reducible repeat (first|refine blk_drewN ?_ _|refine blk_drew ?_|refine blk_alloc ?_ _));exact BK218.out) hb);have n1_:=Aside0.mk (below_step (by repeat (first|(with_reducible first|exact HB.out|apply below_alloc|apply pw_below_drewN|apply below_drew1|refine below_set ?_ GE218.out)|exact HB.out)) hb);clear BK218;clear HB;have BK218:=n0_;have HB:=n1_;clear n0_ n1_;(try clear hb);(try clear hb2);(try clear hk);(try clear hi))|((with_reducible refine gate_dst (N:=15) rfl ?_);refine Kd.R_lit (Kd.int .u32) _ 23 ?hg (N:=15) ?hd (xs:=([t219] : List Int)) (inner:=[.int .u32 t219]) (ok:=fun _=>True) (okp:=fun _=>True) ?hr ?hp (fun _ hk=>hk) trivial (Below.refl _ _) (Nat.le_refl _) (by simp) ?_;(case hd=>rfl);(case hg=>rfl);(case hr=>first|(go_simp;done)|(go_simp;rfl));(case hp=>exact (Reps.one (show Kd.M (Kd.int .u32) _ _ _ t219 [.int .u32 t219] from rfl) (Reps.none _ _)));intro v221 w6 ho7 hb hg_ hnew_;clear hg_ hnew_;(first|rw [← Ny220.out] at ho7|(simp only [Int.reduceToNat] at ho7;rw [← Ny220.out] at ho7));have n0_:=Aside0.mk (Kd.R_lower ho7 (below_size (by repeat (first|(with_reducible first|exact HB.out|apply below_alloc|apply pw_below_drewN|apply below_drew1|refine below_set ?_ GE218.out)|exact HB.out))));have n1_:=Aside0.mk (blk_below (g:=gb218) (o:=.cells #[.int .i64 a0_0,.int .i64 a0_1,.slice A0_2 l0_2.length c0_2,.int .u32 a0_3,.int .u32 a0_4] 32 (0,0)) (by (with_reducible repeat (first|refine blk_drewN ?_ _|refine blk_drew ?_|refine blk_alloc ?_ _));exact BK218.out) hb);have n2_:=Aside0.mk (below_step (by repeat (first|(with_reducible first|exact HB.out|apply below_alloc|apply pw_below_drewN|apply below_drew1|refine below_set ?_ GE218.out)|exact HB.out)) hb);clear BK218;clear HB;have HO222:=n0_;have BK218:=n1_;have HB:=n2_;clear n0_ n1_ n2_;clear hb ho7))
 go_loopg [4,5,6] k (fun kq v4 v5 v6 w'=>∃ (x4_1 : List Int) (x5_1 : List (List Int)) (x6_1 : Int),v6 = .int .i64 x6_1 ∧ Aside0 (net_Sets.l0 kq x4_1 x5_1 x6_1 a0_0 a0_1 l0_2 a0_3 a0_4 = some (r1,r2)) ∧ Aside0 (kq ≤ k) ∧ Aside0 (Kd.R (Kd.int .u32) 23 w' w.heap.size (fun _=>True) v4 x4_1) ∧ Aside0 (Kd.S (Kd.slice 3 (Kd.int .i64)) 40 w' w.heap.size (fun _=>True) v5 x5_1) ∧ Aside0 (w'.heap[gb218]? = some (.cells #[.int .i64 a0_0,.int .i64 a0_1,(.slice A0_2 l0_2.length c0_2),.int .u32 a0_3,.int .u32 a0_4] 32 (0,0))) ∧ Aside0 (Below w.heap.size w w'))
 case atStart=>exact ⟨(y220),(([] : List (List Int))),(0),(by first|rfl|(simp;done)|(simp [*];done)),H',⟨Nat.le_refl _⟩,⟨by (with_reducible repeat (first|apply Kd.R_alloc|apply Kd.R_drewN|apply Kd.R_drew));exact HO222.out⟩,⟨by first|exact Kd.S_nil _ _ _ _ _|exact Kd.N_nil _ _ _ _ _|exact Kd.V_nil _ _ _ _ _|exact Kd.Q_nil _ _ _ _ _|exact Kd.R_nil _ _ _ _ _⟩,⟨by (with_reducible repeat (first|refine blk_drewN ?_ _|refine blk_drew ?_|refine blk_alloc ?_ _));exact BK218.out⟩,⟨by repeat (first|(with_reducible first|exact HB.out|apply below_alloc|apply pw_below_drewN|apply below_drew1|refine below_set ?_ GE218.out)|exact HB.out)⟩⟩
 case round =>
  clear H'
  try clear c1
  try clear c2
  try clear p2
  try clear hcz4_0
  try clear hcz4_1
  try clear hcz4_2
  try clear hcz4_3
  try clear hcz4_4
  try clear hfz4_0
  try clear hfz4_1
  try clear hfz4_2
  try clear hfz4_3
  try clear hfz4_4
  obtain ⟨x4_1,x5_1,x6_1,rfl,HA,HK1,HO_4,HO_5,BK218,HB⟩:=hrel
  cases gk with
  | zero=>exact absurd HA.out (by simp [net_Sets.l0])
  | succ k1 =>
   have H:=HA.out
   clear HA
   simp only [net_Sets.l0] at H
   by_cases c8 : x6_1 < (x4_1.length : Int)
   ·rw [if_pos c8] at H
    have c8b0 : decide (x6_1 < (x4_1.length : Int)) = true:=decide_eq_true c8
    clear c8
    have H':=Aside0.mk H
    clear H
    obtain ⟨Ao9,co9,eo9⟩:=Kd.R_slice HO_4.out
    subst eo9
    have hcz10_0 : wr.cell? ⟨gb218,0,none⟩ = some (.int .i64 a0_0):=(blk_cell BK218.out 0).trans rfl
    have hcz10_1 : wr.cell? ⟨gb218,1,none⟩ = some (.int .i64 a0_1):=(blk_cell BK218.out 1).trans rfl
    have hcz10_2 : wr.cell? ⟨gb218,2,none⟩ = some (.slice A0_2 l0_2.length c0_2):=(blk_cell BK218.out 2).trans rfl
    have hcz10_3 : wr.cell? ⟨gb218,3,none⟩ = some (.int .u32 a0_3):=(blk_cell BK218.out 3).trans rfl
    have hcz10_4 : wr.cell? ⟨gb218,4,none⟩ = some (.int .u32 a0_4):=(blk_cell BK218.out 4).trans rfl
    have hfz10_0:=blk_frozen BK218.out 0
    have hfz10_1:=blk_frozen BK218.out 1
    have hfz10_2:=blk_frozen BK218.out 2
    have hfz10_3:=blk_frozen BK218.out 3
    have hfz10_4:=blk_frozen BK218.out 4
    go_wp2
    go_loopg [4,7,24] k1 (fun kq v4 v7 v24 w'=>∃ (x4_2 : List Int) (x7_2 : List Int) (x24_2 : Int),v24 = .int .i64 x24_2 ∧ Aside0 (net_Sets.l1 kq x4_2 x5_1 x6_1 x7_2 a0_1 x24_2 a0_0 a0_1 l0_2 a0_3 a0_4 = some (r1,r2)) ∧ Aside0 (kq ≤ k1) ∧ Aside0 (Kd.R (Kd.int .u32) 23 w' w.heap.size (fun _=>True) v4 x4_2) ∧ Aside0 (Kd.S (Kd.slice 3 (Kd.int .i64)) 40 w' w.heap.size (fun k_=>some k_ ≠ (v7 : Value).ownBlock) u5 x5_1) ∧ Aside0 (Kd.R (Kd.int .i64) 3 w' w.heap.size (fun _=>True) v7 x7_2) ∧ Aside0 (w'.heap[gb218]? = some (.cells #[.int .i64 a0_0,.int .i64 a0_1,(.slice A0_2 l0_2.length c0_2),.int .u32 a0_3,.int .u32 a0_4] 32 (0,0))) ∧ Aside0 (Below w.heap.size w w'))
    case atStart=>exact ⟨(x4_1),(([] : List Int)),(0),(by first|rfl|(simp;done)|(simp [*];done)),H',⟨Nat.le_refl _⟩,⟨by (with_reducible repeat (first|apply Kd.R_alloc|apply Kd.R_drewN|apply Kd.R_drew));exact HO_4.out⟩,⟨by (with_reducible repeat (first|apply Kd.S_alloc|apply Kd.S_drewN|apply Kd.S_drew));exact Kd.S_mono HO_5.out (fun _ hk=>(by simp [Value.ownBlock]))⟩,⟨by first|exact Kd.R_nil _ _ _ _ _|exact Kd.N_nil _ _ _ _ _|exact Kd.V_nil _ _ _ _ _|exact Kd.Q_nil _ _ _ _ _|exact Kd.S_nil _ _ _ _ _⟩,⟨by (with_reducible repeat (first|refine blk_drewN ?_ _|refine blk_drew ?_|refine blk_alloc ?_ _));exact BK218.out⟩,⟨by repeat (first|(with_reducible first|exact HB.out|apply below_alloc|apply pw_below_drewN|apply below_drew1|refine below_set ?_ GE218.out)|exact HB.out)⟩⟩
    case round =>
     clear H'
     try clear c1
     try clear c2
     try clear p2
     try clear c8
     try clear c8b0
     try clear hcz10_0
     try clear hcz10_1
     try clear hcz10_2
     try clear hcz10_3
     try clear hcz10_4
     try clear hcz4_0
     try clear hcz4_1
     try clear hcz4_2
     try clear hcz4_3
     try clear hcz4_4
     try clear hfz10_0
     try clear hfz10_1
     try clear hfz10_2
     try clear hfz10_3
     try clear hfz10_4
     try clear hfz4_0
     try clear hfz4_1
     try clear hfz4_2
     try clear hfz4_3
     try clear hfz4_4
     try clear p2
     obtain ⟨x4_2,x7_2,x24_2,rfl,HA,HK2,HO_4,HO_5,HO_7,BK218,HB⟩:=hrel
     cases gk with
     | zero=>exact absurd HA.out (by simp [net_Sets.l1])
     | succ k2 =>
      have H:=HA.out
      clear HA
      simp only [net_Sets.l1] at H
      by_cases c11 : x24_2 < a0_1
      ·rw [if_pos c11] at H
       have c11b0 : decide (x24_2 < a0_1) = true:=decide_eq_true c11
       clear c11
       by_cases c12 : 0 ≤ x6_1
       ·rw [if_pos c12] at H
        have c12b0 : decide (0 ≤ x6_1) = true:=decide_eq_true c12
        clear c12
        by_cases c13 : x6_1 < (x4_2.length : Int)
        ·rw [if_pos c13] at H
         have c13b0 : decide (x6_1 < (x4_2.length : Int)) = true:=decide_eq_true c13
         clear c13
         replace H:=Option.bind_eq_some_iff.mp H
         obtain ⟨t227,A140,H⟩:=H
         replace H : ((slices_Index_uint32_uint32.f k2 x4_2 t227).bind fun t228=>(if t228 < 0 then (if x4_2.length < 35184372088832 then (if x7_2.length < 17592186044416 then (net_Sets.l1 k2 (x4_2 ++ [t227]) x5_1 x6_1 (x7_2 ++ [(x4_2.length : Int)]) a0_1 (wrap64 (x24_2 + 1)) a0_0 a0_1 l0_2 a0_3 a0_4) else (none)) else (none)) else (if x7_2.length < 17592186044416 then (net_Sets.l1 k2 x4_2 x5_1 x6_1 (x7_2 ++ [t228]) a0_1 (wrap64 (x24_2 + 1)) a0_0 a0_1 l0_2 a0_3 a0_4) else (none)))) = some (r1,r2):=H
         have A14:=Aside0.mk A140
         clear A140
         replace H:=Option.bind_eq_some_iff.mp H
         obtain ⟨t228,A150,H⟩:=H
         replace H : (if t228 < 0 then (if x4_2.length < 35184372088832 then (if x7_2.length < 17592186044416 then (net_Sets.l1 k2 (x4_2 ++ [t227]) x5_1 x6_1 (x7_2 ++ [(x4_2.length : Int)]) a0_1 (wrap64 (x24_2 + 1)) a0_0 a0_1 l0_2 a0_3 a0_4) else (none)) else (none)) else (if x7_2.length < 17592186044416 then (net_Sets.l1 k2 x4_2 x5_1 x6_1 (x7_2 ++ [t228]) a0_1 (wrap64 (x24_2 + 1)) a0_0 a0_1 l0_2 a0_3 a0_4) else (none))) = some (r1,r2):=H
         have A15:=Aside0.mk A150
         clear A150
         by_cases c16 : t228 < 0
         ·rw [if_pos c16] at H
          have c16b0 : decide (t228 < 0) = true:=decide_eq_true c16
          clear c16
          by_cases c17 : x4_2.length < 35184372088832
          ·rw [if_pos c17] at H
           have LMc17:=Aside0.mk c17
           clear c17
           obtain ⟨y229,hy229⟩ : ∃ y_ : List Int,y_ = (x4_2 ++ [t227]):=⟨_,rfl⟩
           replace H : (if x7_2.length < 17592186044416 then (net_Sets.l1 k2 y229 x5_1 x6_1 (x7_2 ++ [(x4_2.length : Int)]) a0_1 (wrap64 (x24_2 + 1)) a0_0 a0_1 l0_2 a0_3 a0_4) else (none)) = some (r1,r2):=by first|(rw [hy229];with_reducible exact H)|(have H2_:=(Option.bind_some _ _).symm.trans H;rw [hy229];with_reducible exact H2_)|(have H2_:=(Option.bind_some _ _).symm.trans H;with_reducible exact H2_)|with_reducible exact H|(rw [hy229];exact H)|exact H
           have Ny229:=Aside0.mk hy229
           clear hy229
           by_cases c18 : x7_2.length < 17592186044416
           ·rw [if_pos c18] at H
            have LMc18:=Aside0.mk c18
            clear c18
            obtain ⟨y232,hy232⟩ : ∃ y_ : List Int,y_ = (x7_2 ++ [(x4_2.length : Int)]):=⟨_,rfl⟩
            replace H : (net_Sets.l1 k2 y229 x5_1 x6_1 y232 a0_1 (wrap64 (x24_2 + 1)) a0_0 a0_1 l0_2 a0_3 a0_4) = some (r1,r2):=by first|(rw [hy232];with_reducible exact H)|(have H2_:=(Option.bind_some _ _).symm.trans H;rw [hy232];with_reducible exact H2_)|(have H2_:=(Option.bind_some _ _).symm.trans H;with_reducible exact H2_)|with_reducible exact H|(rw [hy232];exact H)|exact H
            have Ny232:=Aside0.mk hy232
            clear hy232
            have H':=Aside0.mk H
            clear H
            try go_wp2
            have n0_:=Aside0.mk (Kd.R_drew HO_4.out)
            have n1_:=Aside0.mk (Kd.S_drew HO_5.out)
            have n2_:=Aside0.mk (Kd.R_drew HO_7.out)
            have n3_:=Aside0.mk (blk_drew BK218.out)
            have n4_:=Aside0.mk (below_drew1 HB.out)
            clear HO_4
            clear HO_5
            clear HO_7
            clear BK218
            clear HB
            have HO_4:=n0_
            have HO_5:=n1_
            have HO_7:=n2_
            have BK218:=n3_
            have HB:=n4_
            clear n0_ n1_ n2_ n3_ n4_
            obtain ⟨Ao20,co20,eo20⟩:=Kd.R_slice HO_4.out
            (first|subst eo20|(injection eo20 with f1_ f2_ f3_;have f4_:=f1_.symm;have f5_:=f3_.symm;clear f1_ f2_ f3_;subst f4_;subst f5_))
            have p226 : 0 ≤ (x6_1 : Int):=of_decide_eq_true (by first|(with_reducible assumption)|assumption)
            have q226 : x6_1 < (x4_2.length : Int):=of_decide_eq_true (by first|(with_reducible assumption)|assumption)
            obtain ⟨ad226,e226,hx226_0⟩:=Kd.at_int (Kd.R_reads' HO_4.out).2.2 x6_1 p226 q226
            cases e226
            replace p226:=eq_true p226
            replace q226:=eq_true q226
            refine start_ (n:=8) (S:=fun w'=>w'.cell? ⟨gb218,0,none⟩ = some (.int .i64 a0_0) ∧ w'.cell? ⟨gb218,1,none⟩ = some (.int .i64 a0_1) ∧ w'.cell? ⟨gb218,2,none⟩ = some (.slice A0_2 l0_2.length c0_2) ∧ w'.cell? ⟨gb218,3,none⟩ = some (.int .u32 a0_3) ∧ w'.cell? ⟨gb218,4,none⟩ = some (.int .u32 a0_4) ∧ w'.cell? (ad226.add (x6_1).toNat) = some (.int .u32 (rd x4_2 x6_1))) (ds:=[]) #[false,false,false,false,false,false,false,false] (by kernel_rfl) rfl rfl ⟨(blk_cell BK218.out 0).trans rfl,(blk_cell BK218.out 1).trans rfl,(blk_cell BK218.out 2).trans rfl,(blk_cell BK218.out 3).trans rfl,(blk_cell BK218.out 4).trans rfl,hx226_0⟩ (fun hHeld=>?_);refine with_tabW net_Sets.tab10 net_Sets.bits10 (fun HT_ HW_=>?_)
            generalize wr.drew = w19 at HO_4 HO_5 HO_7 BK218 HB hx226_0 hHeld ⊢
            refine pure_ (i:=1) (N:=some 28) (v:=?_) (a':=?_) #[false,true,false,false,false,false,false,false] rfl rfl (any_of HT_.out (by kernel_rfl)) (fun _ _ _ h=>h) (Or.inl ⟨by rfl,?_⟩) ?_ ?_
            rotate_left
            ·intro w'
             go_simp
             with_reducible rfl
            rotate_left
            ·simp only [Act.put,List.setIfInBounds_toArray,List.set_cons_zero,List.set_cons_succ,i64_w,i32_w]
             rfl
            refine pure_ (i:=2) (N:=some 29) (v:=?_) (a':=?_) #[false,true,true,false,false,false,false,false] rfl rfl (any_of HT_.out (by kernel_rfl)) (fun _ _ _ h=>h) (Or.inl ⟨by rfl,?_⟩) ?_ ?_
            rotate_left
            ·intro w'
             go_simp
             with_reducible rfl
            rotate_left
            ·simp only [Act.put,List.setIfInBounds_toArray,List.set_cons_zero,List.set_cons_succ,i64_w,i32_w]
             rfl
            refine pure_ (i:=3) (N:=some 30) (v:=?_) (a':=?_) #[false,true,true,true,false,false,false,false] rfl rfl (any_of HT_.out (by kernel_rfl)) (fun _ _ _ h=>h) (Or.inl ⟨by rfl,?_⟩) ?_ ?_
            rotate_left
            ·intro w'
             go_simp
             with_reducible rfl
            rotate_left
            ·simp only [Act.put,List.setIfInBounds_toArray,List.set_cons_zero,List.set_cons_succ,i64_w,i32_w]
             rfl
            refine pure_ (i:=5) (N:=some 32) (v:=?_) (a':=?_) #[false,true,true,true,false,true,false,false] rfl rfl (any_of HT_.out (by kernel_rfl)) (fun _ _ _ h=>h) (Or.inl ⟨by rfl,?_⟩) ?_ ?_
            rotate_left
            ·intro w'
             go_simp
             with_reducible rfl
            rotate_left
            ·simp only [Act.put,List.setIfInBounds_toArray,List.set_cons_zero,List.set_cons_succ,i64_w,i32_w]
             rfl
            refine take_ (i:=0) (N:=some 27) (v:=?_) (a':=?_) #[true,true,true,true,false,true,false,false] rfl rfl (take_ofW HT_.out HW_.out (by kernel_rfl)) (fun _ _ _ h=>h) (Or.inl ⟨by rfl,?_⟩) hHeld ?_ ?_
            rotate_left
            ·rintro w' ⟨s0,s1,s2,s3,s4,s5⟩
             go_simp
             with_reducible rfl
            rotate_left
            ·simp only [Act.put,List.setIfInBounds_toArray,List.set_cons_zero,List.set_cons_succ,i64_w,i32_w]
             rfl
            refine take_ (i:=4) (N:=some 31) (v:=?_) (a':=?_) #[true,true,true,true,true,true,false,false] rfl rfl (take_ofW HT_.out HW_.out (by kernel_rfl)) (fun _ _ _ h=>h) (Or.inl ⟨by rfl,?_⟩) hHeld ?_ ?_
            rotate_left
            ·rintro w' ⟨s0,s1,s2,s3,s4,s5⟩
             go_simp
             with_reducible rfl
            rotate_left
            ·simp only [Act.put,List.setIfInBounds_toArray,List.set_cons_zero,List.set_cons_succ,i64_w,i32_w]
             rfl
            refine one_ (i:=6) (N:=some 33) #[true,true,true,true,true,true,true,false] rfl rfl (one_of HT_.out (by kernel_rfl)) (by decide) (fun K hK=>?_)
            refine goes_ Try.func22 (by kernel_rfl) rfl #[.agg #[.int .i64 a0_0,.int .i64 a0_1,.slice A0_2 l0_2.length c0_2,.int .u32 a0_3,.int .u32 a0_4],.int .u32 (rd x4_2 x6_1),.int .i64 x24_2] (by rfl) rfl rfl (by (try simp only [List.map_toArray,List.map_cons,List.map_nil]);first|done|rfl|(simp only [List.length_drop,List.length_take];rfl)) ?_
            with_reducible refine (net_Step.calls k2 a0_0 a0_1 _ _ l0_2 a0_3 a0_4 (rd x4_2 x6_1) x24_2 t227 _ ?side1 ?side2 A14.out).mono ?_
            (case side1=>repeat (first|exact (Kd.C_below HR0_2.out HB.out)|(with_reducible refine Kd.C_alloc ?_ _)|(with_reducible refine Kd.C_drewN ?_ _)|(with_reducible refine Kd.C_drew ?_)))
            (case side2=>exact HC0_2.out)
            rintro e w21 ⟨rfl,hb⟩
            have HS5_:=(hb.cell (World.block_lt_of_cell? _ _ (hHeld.2.2.2.2.2))).trans (hHeld.2.2.2.2.2)
            refine ⟨_,rfl,?_⟩
            have n0_:=Aside0.mk (Kd.R_below (by (with_reducible repeat (first|apply Kd.R_alloc|apply Kd.R_drewN|apply Kd.R_drew));exact HO_4.out) hb)
            have n1_:=Aside0.mk (Kd.S_below (by (with_reducible repeat (first|apply Kd.S_alloc|apply Kd.S_drewN|apply Kd.S_drew));exact HO_5.out) hb)
            have n2_:=Aside0.mk (Kd.R_below (by (with_reducible repeat (first|apply Kd.R_alloc|apply Kd.R_drewN|apply Kd.R_drew));exact HO_7.out) hb)
            have n3_:=Aside0.mk (blk_below (g:=gb218) (o:=.cells #[.int .i64 a0_0,.int .i64 a0_1,.slice A0_2 l0_2.length c0_2,.int .u32 a0_3,.int .u32 a0_4] 32 (0,0)) (by (with_reducible repeat (first|refine blk_drewN ?_ _|refine blk_drew ?_|refine blk_alloc ?_ _));exact BK218.out) hb)
            have n4_:=Aside0.mk (below_step (by repeat (first|(with_reducible first|exact HB.out|apply below_alloc|apply pw_below_drewN|apply below_drew1|refine below_set ?_ GE218.out)|exact HB.out)) hb)
            clear HO_4
            clear HO_5
            clear HO_7
            clear BK218
            clear HB
            have HO_4:=n0_
            have HO_5:=n1_
            have HO_7:=n2_
            have BK218:=n3_
            have HB:=n4_
            clear n0_ n1_ n2_ n3_ n4_
            (try clear hb)
            (try clear hb2)
            (try clear hk)
            (try clear hi)
            refine hK.out _ _ ⟨(blk_cell BK218.out 0).trans rfl,(blk_cell BK218.out 1).trans rfl,(blk_cell BK218.out 2).trans rfl,(blk_cell BK218.out 3).trans rfl,(blk_cell BK218.out 4).trans rfl,HS5_⟩ (fun hHeld=>?_)
            clear hK K
            refine norm_ (a':=?_) ?_ ?_
            rotate_left
            ·show Act.put _ (some 33) _ = _
             simp only [Act.put,List.setIfInBounds_toArray,List.set_cons_zero,List.set_cons_succ,i64_w,i32_w]
             rfl
            refine pure_ (i:=7) (N:=some 9) (v:=?_) (a':=?_) #[true,true,true,true,true,true,true,true] rfl rfl (any_of HT_.out (by kernel_rfl)) (fun _ _ _ h=>h) (Or.inl ⟨by rfl,?_⟩) ?_ ?_
            rotate_left
            ·intro w'
             go_simp
             with_reducible rfl
            rotate_left
            ·simp only [Act.put,List.setIfInBounds_toArray,List.set_cons_zero,List.set_cons_succ,i64_w,i32_w]
             rfl
            refine done_ (done_of HT_.out (by kernel_rfl)) ?_
            try go_wp2_with (first|((with_reducible refine gate_callee (f:=23) rfl ?_);refine goesL_ (some 36) rfl rfl Try.func23 (by kernel_rfl) rfl #[.slice (some ad226) x4_2.length co20,.int .u32 t227] rfl (by (try simp only [List.map_toArray,List.map_cons,List.map_nil]);first|done|rfl|(simp only [List.length_drop,List.length_take];rfl)) ?_;(with_reducible refine (slices_Index_uint32_uint32.calls k2 _ _ x4_2 t227 t228 _ ?side1 ?side2 A15.out).mono ?_);(case side1=>repeat (first|exact (Kd.R_reads' HO_4.out).2.2|(with_reducible refine Kd.C_alloc ?_ _)|(with_reducible refine Kd.C_drewN ?_ _)|(with_reducible refine Kd.C_drew ?_)));(case side2=>exact (Kd.R_reads' HO_4.out).2.1);rintro e w' ⟨rfl,⟨nd,rfl⟩⟩;refine ⟨_,rfl,?_⟩)|((with_reducible refine gate_builtin (b:=.append) (xs:=#[.tmp 41,.tmp 43]) rfl ?_);at_builtin;refine Kd.R_append (Kd.int .u32) (w0:=w) w.heap.size rfl (.tmp 41) (.tmp 43) 46 23 (.int .u32 0) 4 rfl Try.underlying46 info23 rfl (by decide) (by omega) (.slice (some ad226) x4_2.length co20) x4_2 t227 [.int .u32 t227] (fun _=>True) (fun _=>False) rfl rfl ?aP (fun _ hk=>hk.elim) ?aF ?aO ?aB ?aS ?aL ?_;(case aP=>exact rfl);(case aB=>exact (by repeat (first|(with_reducible first|exact HB.out|apply below_alloc|apply pw_below_drewN|apply below_drew1|refine below_set ?_ GE218.out)|exact HB.out)));(case aF=>exact (fun _ _=>trivial));(case aO=>exact (by (with_reducible repeat (first|apply Kd.R_alloc|apply Kd.R_drewN|apply Kd.R_drew));exact HO_4.out));(case aS=>exact (below_size (by repeat (first|(with_reducible first|exact HB.out|apply below_alloc|apply pw_below_drewN|apply below_drew1|refine below_set ?_ GE218.out)|exact HB.out))));(case aL=>have:=LMc17.out;omega);intro v230 w22 ho hb hg hat;rw [← Ny229.out] at ho;have n0_:=Aside0.mk (Kd.S_over' (by (with_reducible repeat (first|apply Kd.S_alloc|apply Kd.S_drewN|apply Kd.S_drew));exact HO_5.out) (Kd.R_typed (by (with_reducible repeat (first|apply Kd.R_alloc|apply Kd.R_drewN|apply Kd.R_drew));exact HO_4.out)) (by decide) hg);have n1_:=Aside0.mk (Kd.R_over' (by (with_reducible repeat (first|apply Kd.R_alloc|apply Kd.R_drewN|apply Kd.R_drew));exact HO_7.out) (Kd.R_typed (by (with_reducible repeat (first|apply Kd.R_alloc|apply Kd.R_drewN|apply Kd.R_drew));exact HO_4.out)) (by decide) hg);have n2_:=Aside0.mk (blk_grown (g:=gb218) (o:=.cells #[.int .i64 a0_0,.int .i64 a0_1,.slice A0_2 l0_2.length c0_2,.int .u32 a0_3,.int .u32 a0_4] 32 (0,0)) (by (with_reducible repeat (first|refine blk_drewN ?_ _|refine blk_drew ?_|refine blk_alloc ?_ _));exact BK218.out) hg (Kd.R_ne HO_4.out BK218.out (by decide)));have n3_:=Aside0.mk (hb);have n4_:=Aside0.mk (ho);clear HO_5;clear HO_7;clear BK218;clear HB;clear HO_4;have HO_5:=n0_;have HO_7:=n1_;have BK218:=n2_;have HB:=n3_;have HO231:=n4_;clear n0_ n1_ n2_ n3_ n4_;clear ho hb hg hat)|((with_reducible refine gate_builtin (b:=.append) (xs:=#[.tmp 45,.tmp 47]) rfl ?_);at_builtin;refine Kd.R_append (Kd.int .i64) (w0:=w) w.heap.size rfl (.tmp 45) (.tmp 47) 40 3 (.int .i64 0) 8 rfl Try.underlying40 info3 rfl (by decide) (by omega) u7 x7_2 (x4_2.length : Int) [.int .i64 (x4_2.length : Int)] (fun _=>True) (fun _=>False) rfl rfl ?aP (fun _ hk=>hk.elim) ?aF ?aO ?aB ?aS ?aL ?_;(case aP=>exact rfl);(case aB=>exact (by repeat (first|(with_reducible first|exact HB.out|apply below_alloc|apply pw_below_drewN|apply below_drew1|refine below_set ?_ GE218.out)|exact HB.out)));(case aF=>exact (fun _ _=>trivial));(case aO=>exact (by (with_reducible repeat (first|apply Kd.R_alloc|apply Kd.R_drewN|apply Kd.R_drew));exact HO_7.out));(case aS=>exact (below_size (by repeat (first|(with_reducible first|exact HB.out|apply below_alloc|apply pw_below_drewN|apply below_drew1|refine below_set ?_ GE218.out)|exact HB.out))));(case aL=>have:=LMc18.out;omega);intro v233 w23 ho hb hg hat;rw [← Ny232.out] at ho;have n0_:=Aside0.mk (Kd.S_after (ok:=(fun _=>True)) (by (with_reducible repeat (first|apply Kd.S_alloc|apply Kd.S_drewN|apply Kd.S_drew));exact Kd.S_mono HO_5.out (fun _ hk=>⟨trivial,hk⟩)) hg hat);have n1_:=Aside0.mk (blk_grown (g:=gb218) (o:=.cells #[.int .i64 a0_0,.int .i64 a0_1,.slice A0_2 l0_2.length c0_2,.int .u32 a0_3,.int .u32 a0_4] 32 (0,0)) (by (with_reducible repeat (first|refine blk_drewN ?_ _|refine blk_drew ?_|refine blk_alloc ?_ _));exact BK218.out) hg (Kd.R_ne HO_7.out BK218.out (by decide)));have n2_:=Aside0.mk (Kd.R_over' (by (with_reducible repeat (first|apply Kd.R_alloc|apply Kd.R_drewN|apply Kd.R_drew));exact HO231.out) (Kd.R_typed (by (with_reducible repeat (first|apply Kd.R_alloc|apply Kd.R_drewN|apply Kd.R_drew));exact HO_7.out)) (by decide) hg);have n3_:=Aside0.mk (hb);have n4_:=Aside0.mk (ho);clear HO_5;clear BK218;clear HO231;clear HB;clear HO_7;have HO_5:=n0_;have BK218:=n1_;have HO231:=n2_;have HB:=n3_;have HO234:=n4_;clear n0_ n1_ n2_ n3_ n4_;clear ho hb hg hat))
            go_roundg k2
            case measure=>have:=HK1.out;have:=HK2.out;omega
            case rel=>exact ⟨(y229),(y232),(wrap64 (x24_2 + 1)),(by first|rfl|(simp;done)|(simp [*];done)),H',⟨by have:=HK1.out;have:=HK2.out;omega⟩,⟨by (with_reducible repeat (first|apply Kd.R_alloc|apply Kd.R_drewN|apply Kd.R_drew));exact HO231.out⟩,⟨by (with_reducible repeat (first|apply Kd.S_alloc|apply Kd.S_drewN|apply Kd.S_drew));exact Kd.S_mono HO_5.out (fun _ hk=>hk.2)⟩,⟨by (with_reducible repeat (first|apply Kd.R_alloc|apply Kd.R_drewN|apply Kd.R_drew));exact HO234.out⟩,⟨by (with_reducible repeat (first|refine blk_drewN ?_ _|refine blk_drew ?_|refine blk_alloc ?_ _));exact BK218.out⟩,⟨by repeat (first|(with_reducible first|exact HB.out|apply below_alloc|apply pw_below_drewN|apply below_drew1|refine below_set ?_ GE218.out)|exact HB.out)⟩⟩
           ·rw [if_neg c18] at H
            exact absurd H (by simp)
          ·rw [if_neg c17] at H
           exact absurd H (by simp)
         ·rw [if_neg c16] at H
          have c16b0 : decide (t228 < 0) = false:=decide_eq_false c16
          clear c16
          by_cases c24 : x7_2.length < 17592186044416
          ·rw [if_pos c24] at H
           have LMc24:=Aside0.mk c24
           clear c24
           obtain ⟨y235,hy235⟩ : ∃ y_ : List Int,y_ = (x7_2 ++ [t228]):=⟨_,rfl⟩
           replace H : (net_Sets.l1 k2 x4_2 x5_1 x6_1 y235 a0_1 (wrap64 (x24_2 + 1)) a0_0 a0_1 l0_2 a0_3 a0_4) = some (r1,r2):=by first|(rw [hy235];with_reducible exact H)|(have H2_:=(Option.bind_some _ _).symm.trans H;rw [hy235];with_reducible exact H2_)|(have H2_:=(Option.bind_some _ _).symm.trans H;with_reducible exact H2_)|with_reducible exact H|(rw [hy235];exact H)|exact H
           have Ny235:=Aside0.mk hy235
           clear hy235
           have H':=Aside0.mk H
           clear H
           try go_wp2
           have n0_:=Aside0.mk (Kd.R_drew HO_4.out)
           have n1_:=Aside0.mk (Kd.S_drew HO_5.out)
           have n2_:=Aside0.mk (Kd.R_drew HO_7.out)
           have n3_:=Aside0.mk (blk_drew BK218.out)
           have n4_:=Aside0.mk (below_drew1 HB.out)
           clear HO_4
           clear HO_5
           clear HO_7
           clear BK218
           clear HB
           have HO_4:=n0_
           have HO_5:=n1_
           have HO_7:=n2_
           have BK218:=n3_
           have HB:=n4_
           clear n0_ n1_ n2_ n3_ n4_
           obtain ⟨Ao26,co26,eo26⟩:=Kd.R_slice HO_4.out
           (first|subst eo26|(injection eo26 with f1_ f2_ f3_;have f4_:=f1_.symm;have f5_:=f3_.symm;clear f1_ f2_ f3_;subst f4_;subst f5_))
           have p226 : 0 ≤ (x6_1 : Int):=of_decide_eq_true (by first|(with_reducible assumption)|assumption)
           have q226 : x6_1 < (x4_2.length : Int):=of_decide_eq_true (by first|(with_reducible assumption)|assumption)
           obtain ⟨ad226,e226,hx226_0⟩:=Kd.at_int (Kd.R_reads' HO_4.out).2.2 x6_1 p226 q226
           cases e226
           replace p226:=eq_true p226
           replace q226:=eq_true q226
           refine start_ (n:=8) (S:=fun w'=>w'.cell? ⟨gb218,0,none⟩ = some (.int .i64 a0_0) ∧ w'.cell? ⟨gb218,1,none⟩ = some (.int .i64 a0_1) ∧ w'.cell? ⟨gb218,2,none⟩ = some (.slice A0_2 l0_2.length c0_2) ∧ w'.cell? ⟨gb218,3,none⟩ = some (.int .u32 a0_3) ∧ w'.cell? ⟨gb218,4,none⟩ = some (.int .u32 a0_4) ∧ w'.cell? (ad226.add (x6_1).toNat) = some (.int .u32 (rd x4_2 x6_1))) (ds:=[]) #[false,false,false,false,false,false,false,false] (by kernel_rfl) rfl rfl ⟨(blk_cell BK218.out 0).trans rfl,(blk_cell BK218.out 1).trans rfl,(blk_cell BK218.out 2).trans rfl,(blk_cell BK218.out 3).trans rfl,(blk_cell BK218.out 4).trans rfl,hx226_0⟩ (fun hHeld=>?_);refine with_tabW net_Sets.tab10 net_Sets.bits10 (fun HT_ HW_=>?_)
           generalize wr.drew = w25 at HO_4 HO_5 HO_7 BK218 HB hx226_0 hHeld ⊢
           refine pure_ (i:=1) (N:=some 28) (v:=?_) (a':=?_) #[false,true,false,false,false,false,false,false] rfl rfl (any_of HT_.out (by kernel_rfl)) (fun _ _ _ h=>h) (Or.inl ⟨by rfl,?_⟩) ?_ ?_
           rotate_left
           ·intro w'
            go_simp
            with_reducible rfl
           rotate_left
           ·simp only [Act.put,List.setIfInBounds_toArray,List.set_cons_zero,List.set_cons_succ,i64_w,i32_w]
            rfl
           refine pure_ (i:=2) (N:=some 29) (v:=?_) (a':=?_) #[false,true,true,false,false,false,false,false] rfl rfl (any_of HT_.out (by kernel_rfl)) (fun _ _ _ h=>h) (Or.inl ⟨by rfl,?_⟩) ?_ ?_
           rotate_left
           ·intro w'
            go_simp
            with_reducible rfl
           rotate_left
           ·simp only [Act.put,List.setIfInBounds_toArray,List.set_cons_zero,List.set_cons_succ,i64_w,i32_w]
            rfl
           refine pure_ (i:=3) (N:=some 30) (v:=?_) (a':=?_) #[false,true,true,true,false,false,false,false] rfl rfl (any_of HT_.out (by kernel_rfl)) (fun _ _ _ h=>h) (Or.inl ⟨by rfl,?_⟩) ?_ ?_
           rotate_left
           ·intro w'
            go_simp
            with_reducible rfl
           rotate_left
           ·simp only [Act.put,List.setIfInBounds_toArray,List.set_cons_zero,List.set_cons_succ,i64_w,i32_w]
            rfl
           refine pure_ (i:=5) (N:=some 32) (v:=?_) (a':=?_) #[false,true,true,true,false,true,false,false] rfl rfl (any_of HT_.out (by kernel_rfl)) (fun _ _ _ h=>h) (Or.inl ⟨by rfl,?_⟩) ?_ ?_
           rotate_left
           ·intro w'
            go_simp
            with_reducible rfl
           rotate_left
           ·simp only [Act.put,List.setIfInBounds_toArray,List.set_cons_zero,List.set_cons_succ,i64_w,i32_w]
            rfl
           refine take_ (i:=0) (N:=some 27) (v:=?_) (a':=?_) #[true,true,true,true,false,true,false,false] rfl rfl (take_ofW HT_.out HW_.out (by kernel_rfl)) (fun _ _ _ h=>h) (Or.inl ⟨by rfl,?_⟩) hHeld ?_ ?_
           rotate_left
           ·rintro w' ⟨s0,s1,s2,s3,s4,s5⟩
            go_simp
            with_reducible rfl
           rotate_left
           ·simp only [Act.put,List.setIfInBounds_toArray,List.set_cons_zero,List.set_cons_succ,i64_w,i32_w]
            rfl
           refine take_ (i:=4) (N:=some 31) (v:=?_) (a':=?_) #[true,true,true,true,true,true,false,false] rfl rfl (take_ofW HT_.out HW_.out (by kernel_rfl)) (fun _ _ _ h=>h) (Or.inl ⟨by rfl,?_⟩) hHeld ?_ ?_
           rotate_left
           ·rintro w' ⟨s0,s1,s2,s3,s4,s5⟩
            go_simp
            with_reducible rfl
           rotate_left
           ·simp only [Act.put,List.setIfInBounds_toArray,List.set_cons_zero,List.set_cons_succ,i64_w,i32_w]
            rfl
           refine one_ (i:=6) (N:=some 33) #[true,true,true,true,true,true,true,false] rfl rfl (one_of HT_.out (by kernel_rfl)) (by decide) (fun K hK=>?_)
           refine goes_ Try.func22 (by kernel_rfl) rfl #[.agg #[.int .i64 a0_0,.int .i64 a0_1,.slice A0_2 l0_2.length c0_2,.int .u32 a0_3,.int .u32 a0_4],.int .u32 (rd x4_2 x6_1),.int .i64 x24_2] (by rfl) rfl rfl (by (try simp only [List.map_toArray,List.map_cons,List.map_nil]);first|done|rfl|(simp only [List.length_drop,List.length_take];rfl)) ?_
           with_reducible refine (net_Step.calls k2 a0_0 a0_1 _ _ l0_2 a0_3 a0_4 (rd x4_2 x6_1) x24_2 t227 _ ?side1 ?side2 A14.out).mono ?_
           (case side1=>repeat (first|exact (Kd.C_below HR0_2.out HB.out)|(with_reducible refine Kd.C_alloc ?_ _)|(with_reducible refine Kd.C_drewN ?_ _)|(with_reducible refine Kd.C_drew ?_)))
           (case side2=>exact HC0_2.out)
           rintro e w27 ⟨rfl,hb⟩
           have HS5_:=(hb.cell (World.block_lt_of_cell? _ _ (hHeld.2.2.2.2.2))).trans (hHeld.2.2.2.2.2)
           refine ⟨_,rfl,?_⟩
           have n0_:=Aside0.mk (Kd.R_below (by (with_reducible repeat (first|apply Kd.R_alloc|apply Kd.R_drewN|apply Kd.R_drew));exact HO_4.out) hb)
           have n1_:=Aside0.mk (Kd.S_below (by (with_reducible repeat (first|apply Kd.S_alloc|apply Kd.S_drewN|apply Kd.S_drew));exact HO_5.out) hb)
           have n2_:=Aside0.mk (Kd.R_below (by (with_reducible repeat (first|apply Kd.R_alloc|apply Kd.R_drewN|apply Kd.R_drew));exact HO_7.out) hb)
           have n3_:=Aside0.mk (blk_below (g:=gb218) (o:=.cells #[.int .i64 a0_0,.int .i64 a0_1,.slice A0_2 l0_2.length c0_2,.int .u32 a0_3,.int .u32 a0_4] 32 (0,0)) (by (with_reducible repeat (first|refine blk_drewN ?_ _|refine blk_drew ?_|refine blk_alloc ?_ _));exact BK218.out) hb)
           have n4_:=Aside0.mk (below_step (by repeat (first|(with_reducible first|exact HB.out|apply below_alloc|apply pw_below_drewN|apply below_drew1|refine below_set ?_ GE218.out)|exact HB.out)) hb)
           clear HO_4
           clear HO_5
           clear HO_7
           clear BK218
           clear HB
           have HO_4:=n0_
           have HO_5:=n1_
           have HO_7:=n2_
           have BK218:=n3_
           have HB:=n4_
           clear n0_ n1_ n2_ n3_ n4_
           (try clear hb)
           (try clear hb2)
           (try clear hk)
           (try clear hi)
           refine hK.out _ _ ⟨(blk_cell BK218.out 0).trans rfl,(blk_cell BK218.out 1).trans rfl,(blk_cell BK218.out 2).trans rfl,(blk_cell BK218.out 3).trans rfl,(blk_cell BK218.out 4).trans rfl,HS5_⟩ (fun hHeld=>?_)
           clear hK K
           refine norm_ (a':=?_) ?_ ?_
           rotate_left
           ·show Act.put _ (some 33) _ = _
            simp only [Act.put,List.setIfInBounds_toArray,List.set_cons_zero,List.set_cons_succ,i64_w,i32_w]
            rfl
           refine pure_ (i:=7) (N:=some 9) (v:=?_) (a':=?_) #[true,true,true,true,true,true,true,true] rfl rfl (any_of HT_.out (by kernel_rfl)) (fun _ _ _ h=>h) (Or.inl ⟨by rfl,?_⟩) ?_ ?_
           rotate_left
           ·intro w'
            go_simp
            with_reducible rfl
           rotate_left
           ·simp only [Act.put,List.setIfInBounds_toArray,List.set_cons_zero,List.set_cons_succ,i64_w,i32_w]
            rfl
           refine done_ (done_of HT_.out (by kernel_rfl)) ?_
           try go_wp2_with (first|((with_reducible refine gate_callee (f:=23) rfl ?_);refine goesL_ (some 36) rfl rfl Try.func23 (by kernel_rfl) rfl #[.slice (some ad226) x4_2.length co26,.int .u32 t227] rfl (by (try simp only [List.map_toArray,List.map_cons,List.map_nil]);first|done|rfl|(simp only [List.length_drop,List.length_take];rfl)) ?_;(with_reducible refine (slices_Index_uint32_uint32.calls k2 _ _ x4_2 t227 t228 _ ?side1 ?side2 A15.out).mono ?_);(case side1=>repeat (first|exact (Kd.R_reads' HO_4.out).2.2|(with_reducible refine Kd.C_alloc ?_ _)|(with_reducible refine Kd.C_drewN ?_ _)|(with_reducible refine Kd.C_drew ?_)));(case side2=>exact (Kd.R_reads' HO_4.out).2.1);rintro e w' ⟨rfl,⟨nd,rfl⟩⟩;refine ⟨_,rfl,?_⟩)|((with_reducible refine gate_builtin (b:=.append) (xs:=#[.tmp 45,.tmp 47]) rfl ?_);at_builtin;refine Kd.R_append (Kd.int .i64) (w0:=w) w.heap.size rfl (.tmp 45) (.tmp 47) 40 3 (.int .i64 0) 8 rfl Try.underlying40 info3 rfl (by decide) (by omega) u7 x7_2 t228 [.int .i64 t228] (fun _=>True) (fun _=>False) rfl rfl ?aP (fun _ hk=>hk.elim) ?aF ?aO ?aB ?aS ?aL ?_;(case aP=>exact rfl);(case aB=>exact (by repeat (first|(with_reducible first|exact HB.out|apply below_alloc|apply pw_below_drewN|apply below_drew1|refine below_set ?_ GE218.out)|exact HB.out)));(case aF=>exact (fun _ _=>trivial));(case aO=>exact (by (with_reducible repeat (first|apply Kd.R_alloc|apply Kd.R_drewN|apply Kd.R_drew));exact HO_7.out));(case aS=>exact (below_size (by repeat (first|(with_reducible first|exact HB.out|apply below_alloc|apply pw_below_drewN|apply below_drew1|refine below_set ?_ GE218.out)|exact HB.out))));(case aL=>have:=LMc24.out;omega);intro v236 w28 ho hb hg hat;rw [← Ny235.out] at ho;have n0_:=Aside0.mk (Kd.R_over' (by (with_reducible repeat (first|apply Kd.R_alloc|apply Kd.R_drewN|apply Kd.R_drew));exact HO_4.out) (Kd.R_typed (by (with_reducible repeat (first|apply Kd.R_alloc|apply Kd.R_drewN|apply Kd.R_drew));exact HO_7.out)) (by decide) hg);have n1_:=Aside0.mk (Kd.S_after (ok:=(fun _=>True)) (by (with_reducible repeat (first|apply Kd.S_alloc|apply Kd.S_drewN|apply Kd.S_drew));exact Kd.S_mono HO_5.out (fun _ hk=>⟨trivial,hk⟩)) hg hat);have n2_:=Aside0.mk (blk_grown (g:=gb218) (o:=.cells #[.int .i64 a0_0,.int .i64 a0_1,.slice A0_2 l0_2.length c0_2,.int .u32 a0_3,.int .u32 a0_4] 32 (0,0)) (by (with_reducible repeat (first|refine blk_drewN ?_ _|refine blk_drew ?_|refine blk_alloc ?_ _));exact BK218.out) hg (Kd.R_ne HO_7.out BK218.out (by decide)));have n3_:=Aside0.mk (hb);have n4_:=Aside0.mk (ho);clear HO_4;clear HO_5;clear BK218;clear HB;clear HO_7;have HO_4:=n0_;have HO_5:=n1_;have BK218:=n2_;have HB:=n3_;have HO237:=n4_;clear n0_ n1_ n2_ n3_ n4_;clear ho hb hg hat))
           go_roundg k2
           case measure=>have:=HK1.out;have:=HK2.out;omega
           case rel=>exact ⟨(x4_2),(y235),(wrap64 (x24_2 + 1)),(by first|rfl|(simp;done)|(simp [*];done)),H',⟨by have:=HK1.out;have:=HK2.out;omega⟩,⟨by (with_reducible repeat (first|apply Kd.R_alloc|apply Kd.R_drewN|apply Kd.R_drew));exact HO_4.out⟩,⟨by (with_reducible repeat (first|apply Kd.S_alloc|apply Kd.S_drewN|apply Kd.S_drew));exact Kd.S_mono HO_5.out (fun _ hk=>hk.2)⟩,⟨by (with_reducible repeat (first|apply Kd.R_alloc|apply Kd.R_drewN|apply Kd.R_drew));exact HO237.out⟩,⟨by (with_reducible repeat (first|refine blk_drewN ?_ _|refine blk_drew ?_|refine blk_alloc ?_ _));exact BK218.out⟩,⟨by repeat (first|(with_reducible first|exact HB.out|apply below_alloc|apply pw_below_drewN|apply below_drew1|refine below_set ?_ GE218.out)|exact HB.out)⟩⟩
          ·rw [if_neg c24] at H
           exact absurd H (by simp)
        ·rw [if_neg c13] at H
         exact absurd H (by simp)
       ·rw [if_neg c12] at H
        exact absurd H (by simp)
      ·rw [if_neg c11] at H
       have c11b0 : decide (x24_2 < a0_1) = false:=decide_eq_false c11
       clear c11
       by_cases c29 : x5_1.length < 5864062014805
       ·rw [if_pos c29] at H
        have LMc29:=Aside0.mk c29
        clear c29
        obtain ⟨y223,hy223⟩ : ∃ y_ : List (List Int),y_ = (x5_1 ++ [x7_2]):=⟨_,rfl⟩
        replace H : (net_Sets.l0 k2 x4_2 y223 (wrap64 (x6_1 + 1)) a0_0 a0_1 l0_2 a0_3 a0_4) = some (r1,r2):=by first|(rw [hy223];with_reducible exact H)|(have H2_:=(Option.bind_some _ _).symm.trans H;rw [hy223];with_reducible exact H2_)|(have H2_:=(Option.bind_some _ _).symm.trans H;with_reducible exact H2_)|with_reducible exact H|(rw [hy223];exact H)|exact H
        have Ny223:=Aside0.mk hy223
        clear hy223
        have H':=Aside0.mk H
        clear H
        obtain ⟨Ao31,co31,eo31⟩:=Kd.R_slice HO_7.out
        subst eo31
        go_wp2_with (first|((with_reducible refine gate_builtin (b:=.append) (xs:=#[.tmp 50,.tmp 52]) rfl ?_);at_builtin;refine Kd.S_append (Kd.slice 3 (Kd.int .i64)) (w0:=w) w.heap.size rfl (.tmp 50) (.tmp 52) 22 40 (.slice none 0 0) 24 rfl Try.underlying22 info40 rfl (by decide) (by omega) u5 x5_1 x7_2 [.slice Ao31 x7_2.length co31] (fun _=>True) (fun k_=>some k_ = (.slice Ao31 x7_2.length co31 : Value).ownBlock) rfl rfl ?aP (fun k_ hk_=>((Kd.R_mono (ok':=fun k_=>((fun _=>True)) k_ ∧ some k_ ≠ (u5 : Value).ownBlock) (Kd.R_apart' (HO_7.out) (Kd.S_typed HO_5.out) (by decide)) (fun k_ hk=>⟨trivial,hk.2⟩))).1 k_ hk_.symm) ?aF ?aO ?aB ?aS ?aL ?_;(case aP=>exact Kd.M_row (Kd.R_mono (Kd.R_tight rfl (Kd.R_mono (ok':=fun k_=>((fun _=>True)) k_ ∧ some k_ ≠ (u5 : Value).ownBlock) (Kd.R_apart' (HO_7.out) (Kd.S_typed HO_5.out) (by decide)) (fun k_ hk=>⟨trivial,hk.2⟩))) (fun _ h_=>h_)));(case aB=>exact (by repeat (first|(with_reducible first|exact HB.out|apply below_alloc|apply pw_below_drewN|apply below_drew1|refine below_set ?_ GE218.out)|exact HB.out)));(case aF=>exact (fun _ _=>trivial));(case aO=>exact (by (with_reducible repeat (first|apply Kd.S_alloc|apply Kd.S_drewN|apply Kd.S_drew));exact Kd.S_mono HO_5.out (fun k_ hk=>⟨trivial,fun e_=>hk e_⟩)));(case aS=>exact (below_size (by repeat (first|(with_reducible first|exact HB.out|apply below_alloc|apply pw_below_drewN|apply below_drew1|refine below_set ?_ GE218.out)|exact HB.out))));(case aL=>have:=LMc29.out;omega);intro v224 w30 ho hb hg hat;rw [← Ny223.out] at ho;have n0_:=Aside0.mk (Kd.R_over' (by (with_reducible repeat (first|apply Kd.R_alloc|apply Kd.R_drewN|apply Kd.R_drew));exact HO_4.out) (Kd.S_typed (by (with_reducible repeat (first|apply Kd.S_alloc|apply Kd.S_drewN|apply Kd.S_drew));exact HO_5.out)) (by decide) hg);have n1_:=Aside0.mk (blk_grown (g:=gb218) (o:=.cells #[.int .i64 a0_0,.int .i64 a0_1,.slice A0_2 l0_2.length c0_2,.int .u32 a0_3,.int .u32 a0_4] 32 (0,0)) (by (with_reducible repeat (first|refine blk_drewN ?_ _|refine blk_drew ?_|refine blk_alloc ?_ _));exact BK218.out) hg (Kd.S_ne HO_5.out BK218.out (by decide)));have n2_:=Aside0.mk (hb);have n3_:=Aside0.mk (ho);clear HO_4;clear BK218;clear HB;clear HO_5;clear HO_7;have HO_4:=n0_;have BK218:=n1_;have HB:=n2_;have HO225:=n3_;clear n0_ n1_ n2_ n3_;clear ho hb hg hat))
        go_roundg k2
        case measure=>have:=HK1.out;have:=HK2.out;omega
        case rel=>exact ⟨(x4_2),(y223),(wrap64 (x6_1 + 1)),(by first|rfl|(simp;done)|(simp [*];done)),H',⟨by have:=HK1.out;have:=HK2.out;omega⟩,⟨by (with_reducible repeat (first|apply Kd.R_alloc|apply Kd.R_drewN|apply Kd.R_drew));exact HO_4.out⟩,⟨by (with_reducible repeat (first|apply Kd.S_alloc|apply Kd.S_drewN|apply Kd.S_drew));exact HO225.out⟩,⟨by (with_reducible repeat (first|refine blk_drewN ?_ _|refine blk_drew ?_|refine blk_alloc ?_ _));exact BK218.out⟩,⟨by repeat (first|(with_reducible first|exact HB.out|apply below_alloc|apply pw_below_drewN|apply below_drew1|refine below_set ?_ GE218.out)|exact HB.out)⟩⟩
       ·rw [if_neg c29] at H
        exact absurd H (by simp)
   ·rw [if_neg c8] at H
    have c8b0 : decide (x6_1 < (x4_1.length : Int)) = false:=decide_eq_false c8
    clear c8
    simp only [Option.some.injEq,Prod.mk.injEq] at H
    obtain ⟨rfl,rfl⟩:=H
    obtain ⟨Ao32,co32,eo32⟩:=Kd.R_slice HO_4.out
    subst eo32
    go_wp2
    go_ret2
    exact ⟨_,_,by first|rfl|(simp [errW_none,errW_some] <;> rfl)|(simp [*,errW_none,errW_some] <;> rfl),by (with_reducible repeat (first|apply Kd.R_alloc|apply Kd.R_drewN|apply Kd.R_drew));exact HO_4.out,by (with_reducible repeat (first|apply Kd.S_alloc|apply Kd.S_drewN|apply Kd.S_drew));exact HO_5.out,by repeat (first|(with_reducible first|exact HB.out|apply below_alloc|apply pw_below_drewN|apply below_drew1|refine below_set ?_ GE218.out)|exact HB.out)⟩
end Go.Proofs.Ytllnipefceonmaa.GA
