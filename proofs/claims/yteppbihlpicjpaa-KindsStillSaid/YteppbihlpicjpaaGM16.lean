-- Written by ext.py, a program of this session.
import Derived.Test.YteppbihlpicjpaaGM0
import Derived.Test.YteppbihlpicjpaaGM10
import Derived.Test.YteppbihlpicjpaaGM11
import Derived.Test.YteppbihlpicjpaaGM15
namespace Go.Proofs.Yteppbihlpicjpaa.GM
open Go.RowKit Go.Proofs.YteppbihlpicjpaaW.PrintWords Go.Proofs.YteppbihlpicjpaaW.PrintLast Go.Proofs.YteppbihlpicjpaaW.PrintMore
attribute [local go_sem] max2_int min2_int max_two min_two max_three min_three max_four min_four cellIs_set   -- for this text's walks alone
set_option linter.unusedVariables false
set_option linter.unusedSimpArgs false
/-! ### kinds_all: function 29 -/
mutual
def kinds_all.l0 : Nat → Int → List (S44) → Int → Int → Int → List (List Int) → Int → Int → Option ((List (S44)))
 | 0,_,_,_,_,_,_,_,_=>none
 | k + 1,x1,x5,x6,x258000,x258001,x258002,x258003,x258004=>if x6 < (x5.length : Int) then (kinds_all.j1 k x1 x5 x6 (decide ((x5.length : Int) ≤ x1)) x258000 x258001 x258002 x258003 x258004) else (kinds_all.j1 k x1 x5 x6 false x258000 x258001 x258002 x258003 x258004)
def kinds_all.j1 : Nat → Int → List (S44) → Int → Bool → Int → Int → List (List Int) → Int → Int → Option ((List (S44)))
 | 0,_,_,_,_,_,_,_,_,_=>none
 | k + 1,x1,x5,x6,x20,x258000,x258001,x258002,x258003,x258004=>if x20 = true then (kinds_all.l1 k x1 x5 x6 x258001 0 x258000 x258001 x258002 x258003 x258004) else (some x5)
def kinds_all.l1 : Nat → Int → List (S44) → Int → Int → Int → Int → Int → List (List Int) → Int → Int → Option ((List (S44)))
 | 0,_,_,_,_,_,_,_,_,_,_=>none
 | k + 1,x1,x5,x6,x24,x25,x258000,x258001,x258002,x258003,x258004=>if x25 < x24 then (if 0 ≤ x6 then (if x6 < (x5.length : Int) then ((kinds_by.f x258000 x258001 x258002 x258003 x258004 x25).bind fun bt269=>((kinds_move_then.f ((rd_T44 x5 x6).f0) ((rd_T44 x5 x6).f1) ((rd_T44 x5 x6).f2) ((rd_T44 x5 x6).f3) ((rd_T44 x5 x6).f4) ((rd_T44 x5 x6).f5) ((rd_T44 x5 x6).f6) bt269.1 bt269.2.1 bt269.2.2.1 bt269.2.2.2.1 bt269.2.2.2.2.1 bt269.2.2.2.2.2.1 bt269.2.2.2.2.2.2).bind fun bt276=>((kinds_move_36.f k x5 bt276.1 bt276.2.1 bt276.2.2.1 bt276.2.2.2.1 bt276.2.2.2.2.1 bt276.2.2.2.2.2.1 bt276.2.2.2.2.2.2).bind fun t284=>(if t284 = true then (kinds_all.l1 k x1 x5 x6 x24 (wrap64 (x25 + 1)) x258000 x258001 x258002 x258003 x258004) else (if x5.length < 2513169434916 then (kinds_all.l1 k x1 (x5 ++ [(⟨bt276.1,bt276.2.1,bt276.2.2.1,bt276.2.2.2.1,bt276.2.2.2.2.1,bt276.2.2.2.2.2.1,bt276.2.2.2.2.2.2⟩ : S44)]) x6 x24 (wrap64 (x25 + 1)) x258000 x258001 x258002 x258003 x258004) else (none)))))) else (none)) else (none)) else (kinds_all.l0 k x1 x5 (wrap64 (x6 + 1)) x258000 x258001 x258002 x258003 x258004)
end
def kinds_all.f (k : Nat) (a0_0 : Int) (a0_1 : Int) (l0_2 : List (List Int)) (a0_3 : Int) (a0_4 : Int) (a1 : Int) : Option ((List (S44))):=(kinds_still.f).bind fun bt258=>(kinds_all.l0 k a1 (([(⟨bt258.1,bt258.2.1,bt258.2.2.1,bt258.2.2.2.1,bt258.2.2.2.2.1,bt258.2.2.2.2.2.1,bt258.2.2.2.2.2.2⟩ : S44)] : List (S44))) 0 a0_0 a0_1 l0_2 a0_3 a0_4)
theorem kinds_all.mono_l : ∀ k,(∀ y0 y1 y2 y3 y4 y5 y6 y7,LeO (kinds_all.l0 k y0 y1 y2 y3 y4 y5 y6 y7) (kinds_all.l0 (k + 1) y0 y1 y2 y3 y4 y5 y6 y7)) ∧ (∀ y0 y1 y2 y3 y4 y5 y6 y7 y8,LeO (kinds_all.j1 k y0 y1 y2 y3 y4 y5 y6 y7 y8) (kinds_all.j1 (k + 1) y0 y1 y2 y3 y4 y5 y6 y7 y8)) ∧ (∀ y0 y1 y2 y3 y4 y5 y6 y7 y8 y9,LeO (kinds_all.l1 k y0 y1 y2 y3 y4 y5 y6 y7 y8 y9) (kinds_all.l1 (k + 1) y0 y1 y2 y3 y4 y5 y6 y7 y8 y9))
 | 0=>⟨fun _ _ _ _ _ _ _ _ r h=>by simp [kinds_all.l0] at h,fun _ _ _ _ _ _ _ _ _ r h=>by simp [kinds_all.j1] at h,fun _ _ _ _ _ _ _ _ _ _ r h=>by simp [kinds_all.l1] at h⟩
 | k + 1=>by
  obtain ⟨ih0,ih1,ih2⟩:=kinds_all.mono_l k
  refine ⟨?_,?_,?_⟩
  ·intro y0 y1 y2 y3 y4 y5 y6 y7
   unfold kinds_all.l0
   repeat' first
   | (with_reducible exact ih0 _ _ _ _ _ _ _ _)
   | (with_reducible exact ih1 _ _ _ _ _ _ _ _ _)
   | (with_reducible exact ih2 _ _ _ _ _ _ _ _ _ _)
   | (with_reducible exact kinds_move_36.mono _ _ _ _ _ _ _ _ _)
   | (with_reducible exact LeO.refl _)
   | (with_reducible exact LeO.none _)
   | (with_reducible refine LeO.ite ?_ ?_)
   | (with_reducible refine LeO.bind ?_ (fun _=>?_))
   | exact ih0 _ _ _ _ _ _ _ _
   | exact ih1 _ _ _ _ _ _ _ _ _
   | exact ih2 _ _ _ _ _ _ _ _ _ _
   | exact kinds_move_36.mono _ _ _ _ _ _ _ _ _
   | exact LeO.none _
   | refine LeO.ite ?_ ?_
   | refine LeO.bind ?_ (fun _=>?_)
  ·intro y0 y1 y2 y3 y4 y5 y6 y7 y8
   unfold kinds_all.j1
   repeat' first
   | (with_reducible exact ih0 _ _ _ _ _ _ _ _)
   | (with_reducible exact ih1 _ _ _ _ _ _ _ _ _)
   | (with_reducible exact ih2 _ _ _ _ _ _ _ _ _ _)
   | (with_reducible exact kinds_move_36.mono _ _ _ _ _ _ _ _ _)
   | (with_reducible exact LeO.refl _)
   | (with_reducible exact LeO.none _)
   | (with_reducible refine LeO.ite ?_ ?_)
   | (with_reducible refine LeO.bind ?_ (fun _=>?_))
   | exact ih0 _ _ _ _ _ _ _ _
   | exact ih1 _ _ _ _ _ _ _ _ _
   | exact ih2 _ _ _ _ _ _ _ _ _ _
   | exact kinds_move_36.mono _ _ _ _ _ _ _ _ _
   | exact LeO.none _
   | refine LeO.ite ?_ ?_
   | refine LeO.bind ?_ (fun _=>?_)
  ·intro y0 y1 y2 y3 y4 y5 y6 y7 y8 y9
   unfold kinds_all.l1
   repeat' first
   | (with_reducible exact ih0 _ _ _ _ _ _ _ _)
   | (with_reducible exact ih1 _ _ _ _ _ _ _ _ _)
   | (with_reducible exact ih2 _ _ _ _ _ _ _ _ _ _)
   | (with_reducible exact kinds_move_36.mono _ _ _ _ _ _ _ _ _)
   | (with_reducible exact LeO.refl _)
   | (with_reducible exact LeO.none _)
   | (with_reducible refine LeO.ite ?_ ?_)
   | (with_reducible refine LeO.bind ?_ (fun _=>?_))
   | exact ih0 _ _ _ _ _ _ _ _
   | exact ih1 _ _ _ _ _ _ _ _ _
   | exact ih2 _ _ _ _ _ _ _ _ _ _
   | exact kinds_move_36.mono _ _ _ _ _ _ _ _ _
   | exact LeO.none _
   | refine LeO.ite ?_ ?_
   | refine LeO.bind ?_ (fun _=>?_)
theorem kinds_all.mono : ∀ a0 a1 a2 a3 a4 a5 k,LeO (kinds_all.f k a0 a1 a2 a3 a4 a5) (kinds_all.f (k + 1) a0 a1 a2 a3 a4 a5):=by
 intro a0 a1 a2 a3 a4 a5 k
 obtain ⟨ih0,ih1,ih2⟩:=kinds_all.mono_l k
 unfold kinds_all.f
 repeat' first
   | (with_reducible exact ih0 _ _ _ _ _ _ _ _)
   | (with_reducible exact ih1 _ _ _ _ _ _ _ _ _)
   | (with_reducible exact ih2 _ _ _ _ _ _ _ _ _ _)
   | (with_reducible exact kinds_move_36.mono _ _ _ _ _ _ _ _ _)
   | (with_reducible exact LeO.refl _)
   | (with_reducible exact LeO.none _)
   | (with_reducible refine LeO.ite ?_ ?_)
   | (with_reducible refine LeO.bind ?_ (fun _=>?_))
   | exact ih0 _ _ _ _ _ _ _ _
   | exact ih1 _ _ _ _ _ _ _ _ _
   | exact ih2 _ _ _ _ _ _ _ _ _ _
   | exact kinds_move_36.mono _ _ _ _ _ _ _ _ _
   | exact LeO.none _
   | refine LeO.ite ?_ ?_
   | refine LeO.bind ?_ (fun _=>?_)
def kinds_all.T8 : Bool × List (List Nat × List Nat):=(true,[([],[]),([],[]),([0,1],[0,1]),([2],[2]),([],[]),([],[]),([4,5],[4,5]),([3,6,6],[3,6]),([],[]),([8,7,7,0,1,2,3,4,5,6,7,8],[7,8])])
def kinds_all.B8 : List Nat:=[0,0,3,7,0,0,48,127,0,511]
theorem kinds_all.tab8 : rtab .any (opsOf Try.f29 8) = kinds_all.T8:=by kernel_rfl
theorem kinds_all.bits8 : waitsOk kinds_all.T8.2 kinds_all.B8 = true:=by kernel_rfl
theorem qDs16_ {p q : Prop} (H : q) (h : q → p:=by intro h_;(with_reducible repeat (first|refine blk_drewN ?_ _|refine blk_drew ?_|refine blk_alloc ?_ _));exact h_) : p:=h H
theorem qRs16_ {p q : Prop} (H : q) (h : q → p:=by intro h_;(with_reducible repeat (first|apply Kd.R_alloc|apply Kd.R_drewN|apply Kd.R_drew));exact h_) : p:=h H
theorem qBs16_2 {p : Prop} (h : p:=by repeat (first|(with_reducible first|exact HB.out|apply below_alloc|apply pw_below_drewN|apply below_drew1)|exact HB.out)) : p:=h
theorem qBs16_3 {p : Prop} (h : p:=by repeat (first|(with_reducible first|exact HB.out|apply below_alloc|apply pw_below_drewN|apply below_drew1|refine below_set ?_ GE257.out)|exact HB.out)) : p:=h
theorem qBs16_4 {p : Prop} (h : p:=by repeat (first|(with_reducible first|exact HB.out|apply below_alloc|apply pw_below_drewN|apply below_drew1|refine below_set ?_ GE257.out|refine below_set ?_ Ap.out)|exact HB.out)) : p:=h
theorem qAs16_5 {p : Prop} (h : p:=by (try simp only [List.map_toArray,List.map_cons,List.map_nil]);first|done|rfl|(simp only [List.length_drop,List.length_take];rfl)) : p:=h
theorem qAs16_6 {p : Prop} (h : p:=by first|(with_reducible assumption)|assumption) : p:=h
set_option maxHeartbeats 8000000 in
set_option maxRecDepth 100000 in
theorem kinds_all.calls (k : Nat) (a0_0 : Int) (a0_1 : Int) (A0_2 : Option Addr) (c0_2 : Nat) (l0_2 : List (List Int)) (a0_3 : Int) (a0_4 : Int) (a1 : Int) (r : List (S44)) (w : World) (hr0_2 : Kd.C (Kd.slice 3 (Kd.int .i64)) w A0_2 l0_2.length l0_2) (hc0_2 : l0_2.length ≤ c0_2) (h : kinds_all.f k a0_0 a0_1 l0_2 a0_3 a0_4 a1 = some r) :
  Calls Try.prog 29 #[.agg #[.int .i64 a0_0,.int .i64 a0_1,.slice A0_2 l0_2.length c0_2,.int .i64 a0_3,.int .u32 a0_4],.int .i64 a1] w fun e w'=>∃ v0_ : Value,e = .returned (v0_) ∧ Kd.R k44 44 w' w.heap.size (fun _=>True) v0_ r ∧ Below w.heap.size w w':=by
 have hu25:=Try.underlying25
 have hu44:=Try.underlying44
 have HR0_2:=Aside0.mk hr0_2
 have HC0_2:=Aside0.mk hc0_2
 clear hr0_2 hc0_2
 have HB:=Aside0.mk (Below.refl w.heap.size w)
 have H : ((kinds_still.f).bind fun bt258=>(kinds_all.l0 k a1 (([(⟨bt258.1,bt258.2.1,bt258.2.2.1,bt258.2.2.2.1,bt258.2.2.2.2.1,bt258.2.2.2.2.2.1,bt258.2.2.2.2.2.2⟩ : S44)] : List (S44))) 0 a0_0 a0_1 l0_2 a0_3 a0_4)) = some r:=h
 clear h
 replace H:=Option.bind_eq_some_iff.mp H
 obtain ⟨⟨t258,t259,t260,t261,t262,t263,t264⟩,A30,H⟩:=H
 replace H : (kinds_all.l0 k a1 (([(⟨t258,t259,t260,t261,t262,t263,t264⟩ : S44)] : List (S44))) 0 a0_0 a0_1 l0_2 a0_3 a0_4) = some r:=H
 have A3:=Aside0.mk A30
 clear A30
 obtain ⟨y265,hy265⟩ : ∃ y_ : List (S44),y_ = (([(⟨t258,t259,t260,t261,t262,t263,t264⟩ : S44)] : List (S44))):=⟨_,rfl⟩
 replace H : (kinds_all.l0 k a1 y265 0 a0_0 a0_1 l0_2 a0_3 a0_4) = some r:=by first|(rw [hy265];with_reducible exact H)|(have H2_:=(Option.bind_some _ _).symm.trans H;rw [hy265];with_reducible exact H2_)|(have H2_:=(Option.bind_some _ _).symm.trans H;with_reducible exact H2_)|with_reducible exact H|(rw [hy265];exact H)|exact H
 have Ny265:=Aside0.mk hy265
 clear hy265
 have H':=Aside0.mk H
 clear H
 go_enter Try.func29,Try.ntmps29
 go_wp2_with (first|((with_reducible refine gate_dst (N:=2) rfl ?_);(try (refine gate_guard (by rfl) ?_;dsimp only));refine box_event ?hg (N:=2) ?hd (cs:=#[.int .i64 a0_0,.int .i64 a0_1,.slice A0_2 l0_2.length c0_2,.int .i64 a0_3,.int .u32 a0_4]) (t:=25) ?hr ?_;(case hd=>rfl);(case hg=>rfl);(case hr=>first|(go_simp;done)|(go_simp;rfl));intro gb257 hg w4 hbox hb;have n0_:=Aside0.mk (below_step qBs16_2 hb);have n1_:=Aside0.mk (hbox);have n2_:=Aside0.mk ((by rw [hg];exact (below_size qBs16_2) : w.heap.size ≤ gb257));have n3_:=Aside0.mk ((by rw [hg];exact (below_size qBs16_2) : w.heap.size ≤ gb257));clear HB;have HB:=n0_;have BK257:=n1_;have GW257:=n2_;have GE257:=n3_;clear n0_ n1_ n2_ n3_;clear hb hbox hg)|((with_reducible refine gate_callee (f:=16) rfl ?_);refine goesL_ (some 9) rfl rfl Try.func16 (by kernel_rfl) rfl #[] rfl qAs16_5 ?_;(with_reducible refine (kinds_still.calls  t258 t259 t260 t261 t262 t263 t264 _ A3.out).mono ?_);rintro e w5 ⟨rfl,hb⟩;refine ⟨_,rfl,?_⟩;have n0_:=Aside0.mk (blk_below (g:=gb257) (o:=.cells #[.int .i64 a0_0,.int .i64 a0_1,.slice A0_2 l0_2.length c0_2,.int .i64 a0_3,.int .u32 a0_4] 25 (0,0)) (qDs16_ BK257.out) hb);have n1_:=Aside0.mk (below_step qBs16_3 hb);clear BK257;clear HB;have BK257:=n0_;have HB:=n1_;clear n0_ n1_;(try clear hb);(try clear hb2);(try clear hk);(try clear hi))|((with_reducible refine gate_dst (N:=10) rfl ?_);(try (refine gate_guard (by rfl) ?_;dsimp only));refine Kd.R_lit k44 _ 44 ?hg (N:=10) ?hd (xs:=([(⟨t258,t259,t260,t261,t262,t263,t264⟩ : S44)] : List (S44))) (inner:=[.int .i64 t258,.int .i64 t259,.int .i64 t260,.int .i64 t261,.int .i64 t262,.int .i64 t263,.int .i64 t264]) (ok:=fun _=>True) (okp:=fun _=>True) ?hr ?hp (fun _ hk=>hk) trivial (Below.refl _ _) (Nat.le_refl _) (by simp) ?_;(case hd=>rfl);(case hg=>rfl);(case hr=>first|(go_simp;done)|(go_simp;rfl));(case hp=>exact (Reps.c7 (show Kd.M k44 _ _ _ (⟨t258,t259,t260,t261,t262,t263,t264⟩ : S44) [.int .i64 t258,.int .i64 t259,.int .i64 t260,.int .i64 t261,.int .i64 t262,.int .i64 t263,.int .i64 t264] from (k44_mkM _ _ _ (⟨t258,t259,t260,t261,t262,t263,t264⟩ : S44) )) (Reps.none _ _)));intro v266 w6 ho7 hb hg_ hnew_;clear hg_ hnew_;(first|rw [← Ny265.out] at ho7|(simp only [Int.reduceToNat] at ho7;rw [← Ny265.out] at ho7));have n0_:=Aside0.mk (Kd.R_lower ho7 (below_size qBs16_3));have n1_:=Aside0.mk (blk_below (g:=gb257) (o:=.cells #[.int .i64 a0_0,.int .i64 a0_1,.slice A0_2 l0_2.length c0_2,.int .i64 a0_3,.int .u32 a0_4] 25 (0,0)) (qDs16_ BK257.out) hb);have n2_:=Aside0.mk (below_step qBs16_3 hb);clear BK257;clear HB;have HO267:=n0_;have BK257:=n1_;have HB:=n2_;clear n0_ n1_ n2_;clear hb ho7))
 go_loopg [5,6] k (fun kq v5 v6 w'=>∃ (Ay : List (S44)) (Ad : Int),v6 = .int .i64 Ad ∧ Aside0 (kinds_all.l0 kq a1 Ay Ad a0_0 a0_1 l0_2 a0_3 a0_4 = some r) ∧ Aside0 (kq ≤ k) ∧ Aside0 (Kd.R k44 44 w' w.heap.size (fun _=>True) v5 Ay) ∧ Aside0 (w'.heap[gb257]? = some (.cells #[.int .i64 a0_0,.int .i64 a0_1,(.slice A0_2 l0_2.length c0_2),.int .i64 a0_3,.int .u32 a0_4] 25 (0,0))) ∧ Aside0 (Below w.heap.size w w'))
 case atStart=>exact ⟨(y265),(0),(by first|rfl|(simp;done)|(simp [*];done)),H',⟨Nat.le_refl _⟩,⟨by (with_reducible repeat (first|apply Kd.R_alloc|apply Kd.R_drewN|apply Kd.R_drew));exact HO267.out⟩,⟨by (with_reducible repeat (first|refine blk_drewN ?_ _|refine blk_drew ?_|refine blk_alloc ?_ _));exact BK257.out⟩,⟨by repeat (first|(with_reducible first|exact HB.out|apply below_alloc|apply pw_below_drewN|apply below_drew1|refine below_set ?_ GE257.out)|exact HB.out)⟩⟩
 case round =>
  clear H'
  try clear c1
  try clear c2
  try clear p2
  try clear c7
  obtain ⟨Ay,Ad,rfl,HA,HK1,Aa,BK257,HB⟩:=hrel
  cases gk with
  | zero=>exact absurd HA.out (by simp [kinds_all.l0])
  | succ k1 =>
   have H:=HA.out
   clear HA
   simp only [kinds_all.l0] at H
   have HC8:=Aside0.mk H
   clear H
   go_upto_region 3 with (fail)
   go_cut [20] (fun v20 wc=>∃ (kq : Nat) (x20_7 : Bool),v20 = .bool x20_7 ∧ Aside0 (kinds_all.j1 kq a1 Ay Ad x20_7 a0_0 a0_1 l0_2 a0_3 a0_4 = some r) ∧ Aside0 (kq ≤ k1) ∧ Aside0 (Kd.R k44 44 wc w.heap.size (fun _=>True) u5 Ay) ∧ Aside0 (wc.heap[gb257]? = some (.cells #[.int .i64 a0_0,.int .i64 a0_1,(.slice A0_2 l0_2.length c0_2),.int .i64 a0_3,.int .u32 a0_4] 25 (0,0))) ∧ Aside0 (Below w.heap.size w wc))
   case first =>
    have H:=HC8.out
    clear HC8
    by_cases c9 : Ad < (Ay.length : Int)
    ·rw [if_pos c9] at H
     have c9b0 : decide (Ad < (Ay.length : Int)) = true:=decide_eq_true c9
     clear c9
     (first|rw [c9b0]|(simp only [i64_w,i32_w];rw [c9b0])|skip)
     have H':=Aside0.mk H
     clear H
     obtain ⟨Ao10,co10,eo10⟩:=Kd.R_slice Aa.out
     subst eo10
     go_wp2
     go_meet
     case rel=>exact ⟨_,(decide ((Ay.length : Int) ≤ a1)),(by first|rfl|(simp;done)|(simp [*];done)),H',⟨by have:=HK1.out;first|omega|exact Nat.le_refl _⟩,⟨by (with_reducible repeat (first|apply Kd.R_alloc|apply Kd.R_drewN|apply Kd.R_drew));exact Aa.out⟩,⟨by (with_reducible repeat (first|refine blk_drewN ?_ _|refine blk_drew ?_|refine blk_alloc ?_ _));exact BK257.out⟩,⟨by repeat (first|(with_reducible first|exact HB.out|apply below_alloc|apply pw_below_drewN|apply below_drew1|refine below_set ?_ GE257.out)|exact HB.out)⟩⟩
    ·rw [if_neg c9] at H
     have c9b0 : decide (Ad < (Ay.length : Int)) = false:=decide_eq_false c9
     clear c9
     (first|rw [c9b0]|(simp only [i64_w,i32_w];rw [c9b0])|skip)
     have H':=Aside0.mk H
     clear H
     obtain ⟨Ao11,co11,eo11⟩:=Kd.R_slice Aa.out
     subst eo11
     go_wp2
     go_meet
     case rel=>exact ⟨_,(false),(by first|rfl|(simp;done)|(simp [*];done)),H',⟨by have:=HK1.out;first|omega|exact Nat.le_refl _⟩,⟨by (with_reducible repeat (first|apply Kd.R_alloc|apply Kd.R_drewN|apply Kd.R_drew));exact Aa.out⟩,⟨by (with_reducible repeat (first|refine blk_drewN ?_ _|refine blk_drew ?_|refine blk_alloc ?_ _));exact BK257.out⟩,⟨by repeat (first|(with_reducible first|exact HB.out|apply below_alloc|apply pw_below_drewN|apply below_drew1|refine below_set ?_ GE257.out)|exact HB.out)⟩⟩
   case rest =>
    clear HC8
    try clear c1
    try clear c2
    try clear p2
    try clear c7
    try clear c9
    try clear c9b0
    try clear p2
    obtain ⟨kq,x20_7,rfl,HA,HJ7,Aa,BK257,HB⟩:=hcut
    cases kq with
    | zero=>exact absurd HA.out (by simp [kinds_all.j1])
    | succ kj7 =>
     have H:=HA.out
     clear HA
     simp only [kinds_all.j1] at H
     by_cases c12 : x20_7 = true
     ·subst c12
      have H1 : (kinds_all.l1 kj7 a1 Ay Ad a0_1 0 a0_0 a0_1 l0_2 a0_3 a0_4) = some r:=by rw [if_pos rfl] at H;exact H
      clear H
      have H:=H1
      clear H1
      have H':=Aside0.mk H
      clear H
      have hcz13_0 : wc.cell? ⟨gb257,0,none⟩ = some (.int .i64 a0_0):=(blk_cell BK257.out 0).trans rfl
      have hcz13_1 : wc.cell? ⟨gb257,1,none⟩ = some (.int .i64 a0_1):=(blk_cell BK257.out 1).trans rfl
      have hcz13_2 : wc.cell? ⟨gb257,2,none⟩ = some (.slice A0_2 l0_2.length c0_2):=(blk_cell BK257.out 2).trans rfl
      have hcz13_3 : wc.cell? ⟨gb257,3,none⟩ = some (.int .i64 a0_3):=(blk_cell BK257.out 3).trans rfl
      have hcz13_4 : wc.cell? ⟨gb257,4,none⟩ = some (.int .u32 a0_4):=(blk_cell BK257.out 4).trans rfl
      have hfz13_0:=blk_frozen BK257.out 0
      have hfz13_1:=blk_frozen BK257.out 1
      have hfz13_2:=blk_frozen BK257.out 2
      have hfz13_3:=blk_frozen BK257.out 3
      have hfz13_4:=blk_frozen BK257.out 4
      go_wp2
      go_loopg [5,25] kj7 (fun kq v5 v25 w'=>∃ (Ae : List (S44)) (Aj : Int),v25 = .int .i64 Aj ∧ Aside0 (kinds_all.l1 kq a1 Ae Ad a0_1 Aj a0_0 a0_1 l0_2 a0_3 a0_4 = some r) ∧ Aside0 (kq ≤ kj7) ∧ Aside0 (Kd.R k44 44 w' w.heap.size (fun _=>True) v5 Ae) ∧ Aside0 (w'.heap[gb257]? = some (.cells #[.int .i64 a0_0,.int .i64 a0_1,(.slice A0_2 l0_2.length c0_2),.int .i64 a0_3,.int .u32 a0_4] 25 (0,0))) ∧ Aside0 (Below w.heap.size w w'))
      case atStart=>exact ⟨(Ay),(0),(by first|rfl|(simp;done)|(simp [*];done)),H',⟨Nat.le_refl _⟩,⟨by (with_reducible repeat (first|apply Kd.R_alloc|apply Kd.R_drewN|apply Kd.R_drew));exact Aa.out⟩,⟨by (with_reducible repeat (first|refine blk_drewN ?_ _|refine blk_drew ?_|refine blk_alloc ?_ _));exact BK257.out⟩,⟨by repeat (first|(with_reducible first|exact HB.out|apply below_alloc|apply pw_below_drewN|apply below_drew1|refine below_set ?_ GE257.out)|exact HB.out)⟩⟩
      case round =>
       clear H'
       try clear c1
       try clear c2
       try clear p2
       try clear c7
       try clear c9
       try clear c9b0
       try clear c12
       try clear hcz13_0
       try clear hcz13_1
       try clear hcz13_2
       try clear hcz13_3
       try clear hcz13_4
       try clear hfz13_0
       try clear hfz13_1
       try clear hfz13_2
       try clear hfz13_3
       try clear hfz13_4
       try clear p2
       obtain ⟨Ae,Aj,rfl,HA,HK3,Aa,BK257,HB⟩:=hrel
       cases gk with
       | zero=>exact absurd HA.out (by simp [kinds_all.l1])
       | succ k3 =>
        have H:=HA.out
        clear HA
        simp only [kinds_all.l1] at H
        by_cases c14 : Aj < a0_1
        ·rw [if_pos c14] at H
         have c14b0 : decide (Aj < a0_1) = true:=decide_eq_true c14
         clear c14
         by_cases c15 : 0 ≤ Ad
         ·rw [if_pos c15] at H
          have c15b0 : decide (0 ≤ Ad) = true:=decide_eq_true c15
          clear c15
          by_cases c16 : Ad < (Ae.length : Int)
          ·rw [if_pos c16] at H
           have c16b0 : decide (Ad < (Ae.length : Int)) = true:=decide_eq_true c16
           clear c16
           replace H:=Option.bind_eq_some_iff.mp H
           obtain ⟨⟨Ar,As,At,Au,Av,Aw,Ax⟩,A170,H⟩:=H
           replace H : ((kinds_move_then.f ((rd_T44 Ae Ad).f0) ((rd_T44 Ae Ad).f1) ((rd_T44 Ae Ad).f2) ((rd_T44 Ae Ad).f3) ((rd_T44 Ae Ad).f4) ((rd_T44 Ae Ad).f5) ((rd_T44 Ae Ad).f6) Ar As At Au Av Aw Ax).bind fun bt276=>((kinds_move_36.f k3 Ae bt276.1 bt276.2.1 bt276.2.2.1 bt276.2.2.2.1 bt276.2.2.2.2.1 bt276.2.2.2.2.2.1 bt276.2.2.2.2.2.2).bind fun t284=>(if t284 = true then (kinds_all.l1 k3 a1 Ae Ad a0_1 (wrap64 (Aj + 1)) a0_0 a0_1 l0_2 a0_3 a0_4) else (if Ae.length < 2513169434916 then (kinds_all.l1 k3 a1 (Ae ++ [(⟨bt276.1,bt276.2.1,bt276.2.2.1,bt276.2.2.2.1,bt276.2.2.2.2.1,bt276.2.2.2.2.2.1,bt276.2.2.2.2.2.2⟩ : S44)]) Ad a0_1 (wrap64 (Aj + 1)) a0_0 a0_1 l0_2 a0_3 a0_4) else (none))))) = some r:=H
           have A17:=Aside0.mk A170
           clear A170
           replace H:=Option.bind_eq_some_iff.mp H
           obtain ⟨⟨Ah,Ai,Ak,Al,Am,An,Ao⟩,A180,H⟩:=H
           replace H : ((kinds_move_36.f k3 Ae Ah Ai Ak Al Am An Ao).bind fun t284=>(if t284 = true then (kinds_all.l1 k3 a1 Ae Ad a0_1 (wrap64 (Aj + 1)) a0_0 a0_1 l0_2 a0_3 a0_4) else (if Ae.length < 2513169434916 then (kinds_all.l1 k3 a1 (Ae ++ [(⟨Ah,Ai,Ak,Al,Am,An,Ao⟩ : S44)]) Ad a0_1 (wrap64 (Aj + 1)) a0_0 a0_1 l0_2 a0_3 a0_4) else (none)))) = some r:=H
           have A18:=Aside0.mk A180
           clear A180
           replace H:=Option.bind_eq_some_iff.mp H
           obtain ⟨t284,A190,H⟩:=H
           replace H : (if t284 = true then (kinds_all.l1 k3 a1 Ae Ad a0_1 (wrap64 (Aj + 1)) a0_0 a0_1 l0_2 a0_3 a0_4) else (if Ae.length < 2513169434916 then (kinds_all.l1 k3 a1 (Ae ++ [(⟨Ah,Ai,Ak,Al,Am,An,Ao⟩ : S44)]) Ad a0_1 (wrap64 (Aj + 1)) a0_0 a0_1 l0_2 a0_3 a0_4) else (none))) = some r:=H
           have A19:=Aside0.mk A190
           clear A190
           by_cases c20 : t284 = true
           ·subst c20
            have H1 : (kinds_all.l1 k3 a1 Ae Ad a0_1 (wrap64 (Aj + 1)) a0_0 a0_1 l0_2 a0_3 a0_4) = some r:=by rw [if_pos rfl] at H;exact H
            clear H
            have H:=H1
            clear H1
            have H':=Aside0.mk H
            clear H
            try go_wp2
            have n0_:=Aside0.mk (Kd.R_drew Aa.out)
            have n1_:=Aside0.mk (blk_drew BK257.out)
            have n2_:=Aside0.mk (below_drew1 HB.out)
            clear Aa
            clear BK257
            clear HB
            have Aa:=n0_
            have BK257:=n1_
            have HB:=n2_
            clear n0_ n1_ n2_
            obtain ⟨Ao22,co22,eo22⟩:=Kd.R_slice Aa.out
            (first|subst eo22|(injection eo22 with f1_ f2_ f3_;have f4_:=f1_.symm;have f5_:=f3_.symm;clear f1_ f2_ f3_;subst f4_;subst f5_))
            have p268 : 0 ≤ (Ad : Int):=of_decide_eq_true qAs16_6
            have q268 : Ad < (Ae.length : Int):=of_decide_eq_true qAs16_6
            obtain ⟨ad268,e268,hx268_0,hx268_1,hx268_2,hx268_3,hx268_4,hx268_5,hx268_6⟩:=at_T44 (Kd.R_reads' Aa.out).2.2 Ad p268 q268
            cases e268
            replace p268:=eq_true p268
            replace q268:=eq_true q268
            refine start_ (n:=10) (S:=fun w'=>w'.cell? ⟨gb257,0,none⟩ = some (.int .i64 a0_0) ∧ w'.cell? ⟨gb257,1,none⟩ = some (.int .i64 a0_1) ∧ w'.cell? ⟨gb257,2,none⟩ = some (.slice A0_2 l0_2.length c0_2) ∧ w'.cell? ⟨gb257,3,none⟩ = some (.int .i64 a0_3) ∧ w'.cell? ⟨gb257,4,none⟩ = some (.int .u32 a0_4) ∧ w'.cell? (ad268.add ((Ad).toNat * 7)) = some (.int .i64 ((rd_T44 Ae Ad).f0)) ∧ w'.cell? ⟨(ad268.add ((Ad).toNat * 7)).block,(ad268.add ((Ad).toNat * 7)).off + 1,none⟩ = some (.int .i64 ((rd_T44 Ae Ad).f1)) ∧ w'.cell? ⟨(ad268.add ((Ad).toNat * 7)).block,(ad268.add ((Ad).toNat * 7)).off + 2,none⟩ = some (.int .i64 ((rd_T44 Ae Ad).f2)) ∧ w'.cell? ⟨(ad268.add ((Ad).toNat * 7)).block,(ad268.add ((Ad).toNat * 7)).off + 3,none⟩ = some (.int .i64 ((rd_T44 Ae Ad).f3)) ∧ w'.cell? ⟨(ad268.add ((Ad).toNat * 7)).block,(ad268.add ((Ad).toNat * 7)).off + 4,none⟩ = some (.int .i64 ((rd_T44 Ae Ad).f4)) ∧ w'.cell? ⟨(ad268.add ((Ad).toNat * 7)).block,(ad268.add ((Ad).toNat * 7)).off + 5,none⟩ = some (.int .i64 ((rd_T44 Ae Ad).f5)) ∧ w'.cell? ⟨(ad268.add ((Ad).toNat * 7)).block,(ad268.add ((Ad).toNat * 7)).off + 6,none⟩ = some (.int .i64 ((rd_T44 Ae Ad).f6))) (ds:=[]) #[false,false,false,false,false,false,false,false,false,false] (by kernel_rfl) rfl rfl ⟨(blk_cell BK257.out 0).trans rfl,(blk_cell BK257.out 1).trans rfl,(blk_cell BK257.out 2).trans rfl,(blk_cell BK257.out 3).trans rfl,(blk_cell BK257.out 4).trans rfl,hx268_0,hx268_1,hx268_2,hx268_3,hx268_4,hx268_5,hx268_6⟩ (fun hHeld=>?_);refine with_tabW kinds_all.tab8 kinds_all.bits8 (fun HT_ HW_=>?_)
            generalize wr.drew = w21 at Aa BK257 HB hx268_0 hx268_1 hx268_2 hx268_3 hx268_4 hx268_5 hx268_6 hHeld ⊢
            refine pure_ (i:=0) (N:=some 28) (v:=?_) (a':=?_) #[true,false,false,false,false,false,false,false,false,false] rfl rfl (any_of HT_.out (by kernel_rfl)) (fun _ _ _ h=>h) (Or.inl ⟨by rfl,?_⟩) ?_ ?_
            rotate_left
            ·intro w'
             go_simp
             with_reducible rfl
            rotate_left
            ·simp only [Act.put,List.setIfInBounds_toArray,List.set_cons_zero,List.set_cons_succ,i64_w,i32_w]
             rfl
            refine pure_ (i:=1) (N:=some 29) (v:=?_) (a':=?_) #[true,true,false,false,false,false,false,false,false,false] rfl rfl (any_of HT_.out (by kernel_rfl)) (fun _ _ _ h=>h) (Or.inl ⟨by rfl,?_⟩) ?_ ?_
            rotate_left
            ·intro w'
             go_simp
             with_reducible rfl
            rotate_left
            ·simp only [Act.put,List.setIfInBounds_toArray,List.set_cons_zero,List.set_cons_succ,i64_w,i32_w]
             rfl
            refine pure_ (i:=2) (N:=some 30) (v:=?_) (a':=?_) #[true,true,true,false,false,false,false,false,false,false] rfl rfl (any_of HT_.out (by kernel_rfl)) (fun _ _ _ h=>h) (Or.inl ⟨by rfl,?_⟩) ?_ ?_
            rotate_left
            ·intro w'
             go_simp
             with_reducible rfl
            rotate_left
            ·simp only [Act.put,List.setIfInBounds_toArray,List.set_cons_zero,List.set_cons_succ,i64_w,i32_w]
             rfl
            refine pure_ (i:=5) (N:=some 33) (v:=?_) (a':=?_) #[true,true,true,false,false,true,false,false,false,false] rfl rfl (any_of HT_.out (by kernel_rfl)) (fun _ _ _ h=>h) (Or.inl ⟨by rfl,?_⟩) ?_ ?_
            rotate_left
            ·intro w'
             go_simp
             with_reducible rfl
            rotate_left
            ·simp only [Act.put,List.setIfInBounds_toArray,List.set_cons_zero,List.set_cons_succ,i64_w,i32_w]
             rfl
            refine take_ (i:=3) (N:=some 31) (v:=?_) (a':=?_) #[true,true,true,true,false,true,false,false,false,false] rfl rfl (take_ofW HT_.out HW_.out (by kernel_rfl)) (fun _ _ _ h=>h) (Or.inl ⟨by rfl,?_⟩) hHeld ?_ ?_
            rotate_left
            ·rintro w' ⟨s0,s1,s2,s3,s4,s5,s6,s7,s8,s9,s10,s11⟩
             go_simp
             with_reducible rfl
            rotate_left
            ·simp only [Act.put,List.setIfInBounds_toArray,List.set_cons_zero,List.set_cons_succ,i64_w,i32_w]
             rfl
            refine take_ (i:=4) (N:=some 32) (v:=?_) (a':=?_) #[true,true,true,true,true,true,false,false,false,false] rfl rfl (take_ofW HT_.out HW_.out (by kernel_rfl)) (fun _ _ _ h=>h) (Or.inl ⟨by rfl,?_⟩) hHeld ?_ ?_
            rotate_left
            ·rintro w' ⟨s0,s1,s2,s3,s4,s5,s6,s7,s8,s9,s10,s11⟩
             go_simp
             with_reducible rfl
            rotate_left
            ·simp only [Act.put,List.setIfInBounds_toArray,List.set_cons_zero,List.set_cons_succ,i64_w,i32_w]
             rfl
            refine join_ (σ:=Nat) 1 #[true,true,true,true,true,true,true,true,true,false] (fun s_=>[(34,.agg #[.int .i64 Ar,.int .i64 As,.int .i64 At,.int .i64 Au,.int .i64 Av,.int .i64 Aw,.int .i64 Ax]),(35,.agg #[.int .i64 Ah,.int .i64 Ai,.int .i64 Ak,.int .i64 Al,.int .i64 Am,.int .i64 An,.int .i64 Ao]),(8,.pointer (some ⟨s_,0,none⟩))]) (fun s_ w'=>(w'.cell? ⟨gb257,0,none⟩ = some (.int .i64 a0_0) ∧ w'.cell? ⟨gb257,1,none⟩ = some (.int .i64 a0_1) ∧ w'.cell? ⟨gb257,2,none⟩ = some (.slice A0_2 l0_2.length c0_2) ∧ w'.cell? ⟨gb257,3,none⟩ = some (.int .i64 a0_3) ∧ w'.cell? ⟨gb257,4,none⟩ = some (.int .u32 a0_4) ∧ w'.cell? (ad268.add ((Ad).toNat * 7)) = some (.int .i64 ((rd_T44 Ae Ad).f0)) ∧ w'.cell? ⟨(ad268.add ((Ad).toNat * 7)).block,(ad268.add ((Ad).toNat * 7)).off + 1,none⟩ = some (.int .i64 ((rd_T44 Ae Ad).f1)) ∧ w'.cell? ⟨(ad268.add ((Ad).toNat * 7)).block,(ad268.add ((Ad).toNat * 7)).off + 2,none⟩ = some (.int .i64 ((rd_T44 Ae Ad).f2)) ∧ w'.cell? ⟨(ad268.add ((Ad).toNat * 7)).block,(ad268.add ((Ad).toNat * 7)).off + 3,none⟩ = some (.int .i64 ((rd_T44 Ae Ad).f3)) ∧ w'.cell? ⟨(ad268.add ((Ad).toNat * 7)).block,(ad268.add ((Ad).toNat * 7)).off + 4,none⟩ = some (.int .i64 ((rd_T44 Ae Ad).f4)) ∧ w'.cell? ⟨(ad268.add ((Ad).toNat * 7)).block,(ad268.add ((Ad).toNat * 7)).off + 5,none⟩ = some (.int .i64 ((rd_T44 Ae Ad).f5)) ∧ w'.cell? ⟨(ad268.add ((Ad).toNat * 7)).block,(ad268.add ((Ad).toNat * 7)).off + 6,none⟩ = some (.int .i64 ((rd_T44 Ae Ad).f6))) ∧ (Kd.R k44 44 w' w.heap.size (fun k_=>k_ ≠ s_) (.slice (some ad268) Ae.length co22) Ae) ∧ (w'.heap[gb257]? = some (.cells #[.int .i64 a0_0,.int .i64 a0_1,.slice A0_2 l0_2.length c0_2,.int .i64 a0_3,.int .u32 a0_4] 25 (0,0))) ∧ (w'.heap[s_]? = some (.cells #[.int .i64 0,.int .i64 0,.int .i64 0,.int .i64 0,.int .i64 0,.int .i64 0,.int .i64 0] 44 (0,0))) ∧ (w.heap.size ≤ s_) ∧ (w.heap.size ≤ s_) ∧ (gb257 ≠ s_) ∧ (s_ ≠ gb257) ∧ (Below w.heap.size w w')) ?_ ?_
            rotate_left
            ·intro hCont
             refine two_ (i:=6) (j:=8) (Ni:=some 34) (Nj:=some 8) #[true,true,true,true,true,true,true,false,false,false] #[true,true,true,true,true,true,false,false,true,false] rfl rfl rfl rfl (two_of HT_.out (by kernel_rfl)) (by decide) (by decide) (fun K hK=>?_) (fun K hK=>?_)
             ·skip
              refine goes_ Try.func18 (by kernel_rfl) rfl #[.agg #[.int .i64 a0_0,.int .i64 a0_1,.slice A0_2 l0_2.length c0_2,.int .i64 a0_3,.int .u32 a0_4],.int .i64 Aj] (by rfl) rfl rfl qAs16_5 ?_
              with_reducible refine (kinds_by.calls a0_0 a0_1 _ _ l0_2 a0_3 a0_4 Aj Ar As At Au Av Aw Ax _ ?side1 ?side2 A17.out).mono ?_
              (case side1=>repeat (first|exact (Kd.C_below HR0_2.out HB.out)|(with_reducible refine Kd.C_alloc ?_ _)|(with_reducible refine Kd.C_drewN ?_ _)|(with_reducible refine Kd.C_drew ?_)))
              (case side2=>exact HC0_2.out)
              rintro e w23 ⟨rfl,hb⟩
              have HS5_:=(hb.cell (World.block_lt_of_cell? _ _ (hHeld.2.2.2.2.2.1))).trans (hHeld.2.2.2.2.2.1)
              have HS6_:=(hb.cell (World.block_lt_of_cell? _ _ (hHeld.2.2.2.2.2.2.1))).trans (hHeld.2.2.2.2.2.2.1)
              have HS7_:=(hb.cell (World.block_lt_of_cell? _ _ (hHeld.2.2.2.2.2.2.2.1))).trans (hHeld.2.2.2.2.2.2.2.1)
              have HS8_:=(hb.cell (World.block_lt_of_cell? _ _ (hHeld.2.2.2.2.2.2.2.2.1))).trans (hHeld.2.2.2.2.2.2.2.2.1)
              have HS9_:=(hb.cell (World.block_lt_of_cell? _ _ (hHeld.2.2.2.2.2.2.2.2.2.1))).trans (hHeld.2.2.2.2.2.2.2.2.2.1)
              have HS10_:=(hb.cell (World.block_lt_of_cell? _ _ (hHeld.2.2.2.2.2.2.2.2.2.2.1))).trans (hHeld.2.2.2.2.2.2.2.2.2.2.1)
              have HS11_:=(hb.cell (World.block_lt_of_cell? _ _ (hHeld.2.2.2.2.2.2.2.2.2.2.2))).trans (hHeld.2.2.2.2.2.2.2.2.2.2.2)
              refine ⟨_,rfl,?_⟩
              have n0_:=Aside0.mk (Kd.R_below (qRs16_ Aa.out) hb)
              have n1_:=Aside0.mk (blk_below (g:=gb257) (o:=.cells #[.int .i64 a0_0,.int .i64 a0_1,.slice A0_2 l0_2.length c0_2,.int .i64 a0_3,.int .u32 a0_4] 25 (0,0)) (qDs16_ BK257.out) hb)
              have n2_:=Aside0.mk (below_step qBs16_3 hb)
              clear Aa
              clear BK257
              clear HB
              have Aa:=n0_
              have BK257:=n1_
              have HB:=n2_
              clear n0_ n1_ n2_
              (try clear hb)
              (try clear hb2)
              (try clear hk)
              (try clear hi)
              refine hK.out _ _ ⟨(blk_cell BK257.out 0).trans rfl,(blk_cell BK257.out 1).trans rfl,(blk_cell BK257.out 2).trans rfl,(blk_cell BK257.out 3).trans rfl,(blk_cell BK257.out 4).trans rfl,HS5_,HS6_,HS7_,HS8_,HS9_,HS10_,HS11_⟩ (fun hHeld=>?_)
              clear hK K
              refine norm_ (a':=?_) ?_ ?_
              rotate_left
              ·show Act.put _ (some 34) _ = _
               simp only [Act.put,List.setIfInBounds_toArray,List.set_cons_zero,List.set_cons_succ,i64_w,i32_w]
               rfl
              refine two_ (i:=7) (j:=8) (Ni:=some 35) (Nj:=some 8) #[true,true,true,true,true,true,true,true,false,false] #[true,true,true,true,true,true,true,false,true,false] rfl rfl rfl rfl (two_of HT_.out (by kernel_rfl)) (by decide) (by decide) (fun K hK=>?_) (fun K hK=>?_)
              ·skip
               refine goes_ Try.func17 (by kernel_rfl) rfl #[.agg #[.int .i64 ((rd_T44 Ae Ad).f0),.int .i64 ((rd_T44 Ae Ad).f1),.int .i64 ((rd_T44 Ae Ad).f2),.int .i64 ((rd_T44 Ae Ad).f3),.int .i64 ((rd_T44 Ae Ad).f4),.int .i64 ((rd_T44 Ae Ad).f5),.int .i64 ((rd_T44 Ae Ad).f6)],.agg #[.int .i64 Ar,.int .i64 As,.int .i64 At,.int .i64 Au,.int .i64 Av,.int .i64 Aw,.int .i64 Ax]] (by rfl) rfl rfl qAs16_5 ?_
               with_reducible refine (kinds_move_then.calls ((rd_T44 Ae Ad).f0) ((rd_T44 Ae Ad).f1) ((rd_T44 Ae Ad).f2) ((rd_T44 Ae Ad).f3) ((rd_T44 Ae Ad).f4) ((rd_T44 Ae Ad).f5) ((rd_T44 Ae Ad).f6) Ar As At Au Av Aw Ax Ah Ai Ak Al Am An Ao _ A18.out).mono ?_
               rintro e w24 ⟨rfl,hb⟩
               have HS5_:=(hb.cell (World.block_lt_of_cell? _ _ (hHeld.2.2.2.2.2.1))).trans (hHeld.2.2.2.2.2.1)
               have HS6_:=(hb.cell (World.block_lt_of_cell? _ _ (hHeld.2.2.2.2.2.2.1))).trans (hHeld.2.2.2.2.2.2.1)
               have HS7_:=(hb.cell (World.block_lt_of_cell? _ _ (hHeld.2.2.2.2.2.2.2.1))).trans (hHeld.2.2.2.2.2.2.2.1)
               have HS8_:=(hb.cell (World.block_lt_of_cell? _ _ (hHeld.2.2.2.2.2.2.2.2.1))).trans (hHeld.2.2.2.2.2.2.2.2.1)
               have HS9_:=(hb.cell (World.block_lt_of_cell? _ _ (hHeld.2.2.2.2.2.2.2.2.2.1))).trans (hHeld.2.2.2.2.2.2.2.2.2.1)
               have HS10_:=(hb.cell (World.block_lt_of_cell? _ _ (hHeld.2.2.2.2.2.2.2.2.2.2.1))).trans (hHeld.2.2.2.2.2.2.2.2.2.2.1)
               have HS11_:=(hb.cell (World.block_lt_of_cell? _ _ (hHeld.2.2.2.2.2.2.2.2.2.2.2))).trans (hHeld.2.2.2.2.2.2.2.2.2.2.2)
               refine ⟨_,rfl,?_⟩
               have n0_:=Aside0.mk (Kd.R_below (qRs16_ Aa.out) hb)
               have n1_:=Aside0.mk (blk_below (g:=gb257) (o:=.cells #[.int .i64 a0_0,.int .i64 a0_1,.slice A0_2 l0_2.length c0_2,.int .i64 a0_3,.int .u32 a0_4] 25 (0,0)) (qDs16_ BK257.out) hb)
               have n2_:=Aside0.mk (below_step qBs16_3 hb)
               clear Aa
               clear BK257
               clear HB
               have Aa:=n0_
               have BK257:=n1_
               have HB:=n2_
               clear n0_ n1_ n2_
               (try clear hb)
               (try clear hb2)
               (try clear hk)
               (try clear hi)
               refine hK.out _ _ ⟨(blk_cell BK257.out 0).trans rfl,(blk_cell BK257.out 1).trans rfl,(blk_cell BK257.out 2).trans rfl,(blk_cell BK257.out 3).trans rfl,(blk_cell BK257.out 4).trans rfl,HS5_,HS6_,HS7_,HS8_,HS9_,HS10_,HS11_⟩ (fun hHeld=>?_)
               clear hK K
               refine norm_ (a':=?_) ?_ ?_
               rotate_left
               ·show Act.put _ (some 35) _ = _
                simp only [Act.put,List.setIfInBounds_toArray,List.set_cons_zero,List.set_cons_succ,i64_w,i32_w]
                rfl
               refine one_ (i:=8) (N:=some 8) #[true,true,true,true,true,true,true,true,true,false] rfl rfl (one_of HT_.out (by kernel_rfl)) (by decide) (fun K hK=>?_)
               refine box_step ?hg (N:=8) ?hd (cs:=#[.int .i64 0,.int .i64 0,.int .i64 0,.int .i64 0,.int .i64 0,.int .i64 0,.int .i64 0]) (t:=44) ?hr ?_;(case hd=>rfl);(case hg=>rfl);(case hr=>first|(go_simp;done)|(go_simp;rfl))
               intro Ab hg w25 hbox hb
               have HS5_:=(hb.cell (World.block_lt_of_cell? _ _ (hHeld.2.2.2.2.2.1))).trans (hHeld.2.2.2.2.2.1)
               have HS6_:=(hb.cell (World.block_lt_of_cell? _ _ (hHeld.2.2.2.2.2.2.1))).trans (hHeld.2.2.2.2.2.2.1)
               have HS7_:=(hb.cell (World.block_lt_of_cell? _ _ (hHeld.2.2.2.2.2.2.2.1))).trans (hHeld.2.2.2.2.2.2.2.1)
               have HS8_:=(hb.cell (World.block_lt_of_cell? _ _ (hHeld.2.2.2.2.2.2.2.2.1))).trans (hHeld.2.2.2.2.2.2.2.2.1)
               have HS9_:=(hb.cell (World.block_lt_of_cell? _ _ (hHeld.2.2.2.2.2.2.2.2.2.1))).trans (hHeld.2.2.2.2.2.2.2.2.2.1)
               have HS10_:=(hb.cell (World.block_lt_of_cell? _ _ (hHeld.2.2.2.2.2.2.2.2.2.2.1))).trans (hHeld.2.2.2.2.2.2.2.2.2.2.1)
               have HS11_:=(hb.cell (World.block_lt_of_cell? _ _ (hHeld.2.2.2.2.2.2.2.2.2.2.2))).trans (hHeld.2.2.2.2.2.2.2.2.2.2.2)
               have n0_:=Aside0.mk (Kd.R_below (Kd.R_elderB (qRs16_ Aa.out) Ab (Nat.le_of_eq hg.symm)) hb)
               have n1_:=Aside0.mk (blk_below (g:=gb257) (o:=.cells #[.int .i64 a0_0,.int .i64 a0_1,.slice A0_2 l0_2.length c0_2,.int .i64 a0_3,.int .u32 a0_4] 25 (0,0)) (qDs16_ BK257.out) hb)
               have n2_:=Aside0.mk (below_step qBs16_3 hb)
               have n3_:=Aside0.mk (hbox)
               have n4_:=Aside0.mk ((by rw [hg];exact (below_size qBs16_3) : w.heap.size ≤ Ab))
               have n5_:=Aside0.mk ((by rw [hg];exact (below_size qBs16_3) : w.heap.size ≤ Ab))
               have n6_:=Aside0.mk ((by rw [hg];exact Nat.ne_of_lt (blk_lt (g:=gb257) (o:=.cells #[.int .i64 a0_0,.int .i64 a0_1,.slice A0_2 l0_2.length c0_2,.int .i64 a0_3,.int .u32 a0_4] 25 (0,0)) (qDs16_ BK257.out)) : gb257 ≠ Ab))
               have n7_:=Aside0.mk ((by rw [hg];exact Nat.ne_of_gt (blk_lt (g:=gb257) (o:=.cells #[.int .i64 a0_0,.int .i64 a0_1,.slice A0_2 l0_2.length c0_2,.int .i64 a0_3,.int .u32 a0_4] 25 (0,0)) (qDs16_ BK257.out)) : Ab ≠ gb257))
               clear Aa
               clear BK257
               clear HB
               have Aa:=n0_
               have BK257:=n1_
               have HB:=n2_
               have Af:=n3_
               have Aq:=n4_
               have Ap:=n5_
               have Ac:=n6_
               have Ag:=n7_
               clear n0_ n1_ n2_ n3_ n4_ n5_ n6_ n7_
               clear hb hbox hg
               refine hK.out _ _ ⟨(blk_cell BK257.out 0).trans rfl,(blk_cell BK257.out 1).trans rfl,(blk_cell BK257.out 2).trans rfl,(blk_cell BK257.out 3).trans rfl,(blk_cell BK257.out 4).trans rfl,HS5_,HS6_,HS7_,HS8_,HS9_,HS10_,HS11_⟩ (fun hHeld=>?_)
               clear hK K
               refine norm_ (a':=?_) ?_ ?_
               rotate_left
               ·show Act.put _ (some 8) _ = _
                simp only [Act.put,List.setIfInBounds_toArray,List.set_cons_zero,List.set_cons_succ,i64_w,i32_w]
                rfl
               exact norm_ (by simp only [putAll,Act.put,List.setIfInBounds_toArray,List.set_cons_zero,List.set_cons_succ]) (hCont (Ab) _ ⟨hHeld,(by (with_reducible repeat (first|apply Kd.R_alloc|apply Kd.R_drewN|apply Kd.R_drew));exact Kd.R_mono Aa.out (fun _ hk=>hk.2)),(qDs16_ BK257.out),(qDs16_ Af.out),Aq.out,Ap.out,Ac.out,Ag.out,qBs16_4⟩)
              ·skip
               refine box_step ?hg (N:=8) ?hd (cs:=#[.int .i64 0,.int .i64 0,.int .i64 0,.int .i64 0,.int .i64 0,.int .i64 0,.int .i64 0]) (t:=44) ?hr ?_;(case hd=>rfl);(case hg=>rfl);(case hr=>first|(go_simp;done)|(go_simp;rfl))
               intro Ab hg w24 hbox hb
               have HS5_:=(hb.cell (World.block_lt_of_cell? _ _ (hHeld.2.2.2.2.2.1))).trans (hHeld.2.2.2.2.2.1)
               have HS6_:=(hb.cell (World.block_lt_of_cell? _ _ (hHeld.2.2.2.2.2.2.1))).trans (hHeld.2.2.2.2.2.2.1)
               have HS7_:=(hb.cell (World.block_lt_of_cell? _ _ (hHeld.2.2.2.2.2.2.2.1))).trans (hHeld.2.2.2.2.2.2.2.1)
               have HS8_:=(hb.cell (World.block_lt_of_cell? _ _ (hHeld.2.2.2.2.2.2.2.2.1))).trans (hHeld.2.2.2.2.2.2.2.2.1)
               have HS9_:=(hb.cell (World.block_lt_of_cell? _ _ (hHeld.2.2.2.2.2.2.2.2.2.1))).trans (hHeld.2.2.2.2.2.2.2.2.2.1)
               have HS10_:=(hb.cell (World.block_lt_of_cell? _ _ (hHeld.2.2.2.2.2.2.2.2.2.2.1))).trans (hHeld.2.2.2.2.2.2.2.2.2.2.1)
               have HS11_:=(hb.cell (World.block_lt_of_cell? _ _ (hHeld.2.2.2.2.2.2.2.2.2.2.2))).trans (hHeld.2.2.2.2.2.2.2.2.2.2.2)
               have n0_:=Aside0.mk (Kd.R_below (Kd.R_elderB (qRs16_ Aa.out) Ab (Nat.le_of_eq hg.symm)) hb)
               have n1_:=Aside0.mk (blk_below (g:=gb257) (o:=.cells #[.int .i64 a0_0,.int .i64 a0_1,.slice A0_2 l0_2.length c0_2,.int .i64 a0_3,.int .u32 a0_4] 25 (0,0)) (qDs16_ BK257.out) hb)
               have n2_:=Aside0.mk (below_step qBs16_3 hb)
               have n3_:=Aside0.mk (hbox)
               have n4_:=Aside0.mk ((by rw [hg];exact (below_size qBs16_3) : w.heap.size ≤ Ab))
               have n5_:=Aside0.mk ((by rw [hg];exact (below_size qBs16_3) : w.heap.size ≤ Ab))
               have n6_:=Aside0.mk ((by rw [hg];exact Nat.ne_of_lt (blk_lt (g:=gb257) (o:=.cells #[.int .i64 a0_0,.int .i64 a0_1,.slice A0_2 l0_2.length c0_2,.int .i64 a0_3,.int .u32 a0_4] 25 (0,0)) (qDs16_ BK257.out)) : gb257 ≠ Ab))
               have n7_:=Aside0.mk ((by rw [hg];exact Nat.ne_of_gt (blk_lt (g:=gb257) (o:=.cells #[.int .i64 a0_0,.int .i64 a0_1,.slice A0_2 l0_2.length c0_2,.int .i64 a0_3,.int .u32 a0_4] 25 (0,0)) (qDs16_ BK257.out)) : Ab ≠ gb257))
               clear Aa
               clear BK257
               clear HB
               have Aa:=n0_
               have BK257:=n1_
               have HB:=n2_
               have Af:=n3_
               have Aq:=n4_
               have Ap:=n5_
               have Ac:=n6_
               have Ag:=n7_
               clear n0_ n1_ n2_ n3_ n4_ n5_ n6_ n7_
               clear hb hbox hg
               refine hK.out _ _ ⟨(blk_cell BK257.out 0).trans rfl,(blk_cell BK257.out 1).trans rfl,(blk_cell BK257.out 2).trans rfl,(blk_cell BK257.out 3).trans rfl,(blk_cell BK257.out 4).trans rfl,HS5_,HS6_,HS7_,HS8_,HS9_,HS10_,HS11_⟩ (fun hHeld=>?_)
               clear hK K
               refine norm_ (a':=?_) ?_ ?_
               rotate_left
               ·show Act.put _ (some 8) _ = _
                simp only [Act.put,List.setIfInBounds_toArray,List.set_cons_zero,List.set_cons_succ,i64_w,i32_w]
                rfl
               refine one_ (i:=7) (N:=some 35) #[true,true,true,true,true,true,true,true,true,false] rfl rfl (one_of HT_.out (by kernel_rfl)) (by decide) (fun K hK=>?_)
               refine goes_ Try.func17 (by kernel_rfl) rfl #[.agg #[.int .i64 ((rd_T44 Ae Ad).f0),.int .i64 ((rd_T44 Ae Ad).f1),.int .i64 ((rd_T44 Ae Ad).f2),.int .i64 ((rd_T44 Ae Ad).f3),.int .i64 ((rd_T44 Ae Ad).f4),.int .i64 ((rd_T44 Ae Ad).f5),.int .i64 ((rd_T44 Ae Ad).f6)],.agg #[.int .i64 Ar,.int .i64 As,.int .i64 At,.int .i64 Au,.int .i64 Av,.int .i64 Aw,.int .i64 Ax]] (by rfl) rfl rfl qAs16_5 ?_
               with_reducible refine (kinds_move_then.calls ((rd_T44 Ae Ad).f0) ((rd_T44 Ae Ad).f1) ((rd_T44 Ae Ad).f2) ((rd_T44 Ae Ad).f3) ((rd_T44 Ae Ad).f4) ((rd_T44 Ae Ad).f5) ((rd_T44 Ae Ad).f6) Ar As At Au Av Aw Ax Ah Ai Ak Al Am An Ao _ A18.out).mono ?_
               rintro e w25 ⟨rfl,hb⟩
               have HS5_:=(hb.cell (World.block_lt_of_cell? _ _ (hHeld.2.2.2.2.2.1))).trans (hHeld.2.2.2.2.2.1)
               have HS6_:=(hb.cell (World.block_lt_of_cell? _ _ (hHeld.2.2.2.2.2.2.1))).trans (hHeld.2.2.2.2.2.2.1)
               have HS7_:=(hb.cell (World.block_lt_of_cell? _ _ (hHeld.2.2.2.2.2.2.2.1))).trans (hHeld.2.2.2.2.2.2.2.1)
               have HS8_:=(hb.cell (World.block_lt_of_cell? _ _ (hHeld.2.2.2.2.2.2.2.2.1))).trans (hHeld.2.2.2.2.2.2.2.2.1)
               have HS9_:=(hb.cell (World.block_lt_of_cell? _ _ (hHeld.2.2.2.2.2.2.2.2.2.1))).trans (hHeld.2.2.2.2.2.2.2.2.2.1)
               have HS10_:=(hb.cell (World.block_lt_of_cell? _ _ (hHeld.2.2.2.2.2.2.2.2.2.2.1))).trans (hHeld.2.2.2.2.2.2.2.2.2.2.1)
               have HS11_:=(hb.cell (World.block_lt_of_cell? _ _ (hHeld.2.2.2.2.2.2.2.2.2.2.2))).trans (hHeld.2.2.2.2.2.2.2.2.2.2.2)
               refine ⟨_,rfl,?_⟩
               have n0_:=Aside0.mk (Kd.R_below (qRs16_ Aa.out) hb)
               have n1_:=Aside0.mk (blk_below (g:=gb257) (o:=.cells #[.int .i64 a0_0,.int .i64 a0_1,.slice A0_2 l0_2.length c0_2,.int .i64 a0_3,.int .u32 a0_4] 25 (0,0)) (qDs16_ BK257.out) hb)
               have n2_:=Aside0.mk (blk_below (g:=Ab) (o:=.cells #[.int .i64 0,.int .i64 0,.int .i64 0,.int .i64 0,.int .i64 0,.int .i64 0,.int .i64 0] 44 (0,0)) (qDs16_ Af.out) hb)
               have n3_:=Aside0.mk (below_step qBs16_4 hb)
               clear Aa
               clear BK257
               clear Af
               clear HB
               have Aa:=n0_
               have BK257:=n1_
               have Af:=n2_
               have HB:=n3_
               clear n0_ n1_ n2_ n3_
               (try clear hb)
               (try clear hb2)
               (try clear hk)
               (try clear hi)
               refine hK.out _ _ ⟨(blk_cell BK257.out 0).trans rfl,(blk_cell BK257.out 1).trans rfl,(blk_cell BK257.out 2).trans rfl,(blk_cell BK257.out 3).trans rfl,(blk_cell BK257.out 4).trans rfl,HS5_,HS6_,HS7_,HS8_,HS9_,HS10_,HS11_⟩ (fun hHeld=>?_)
               clear hK K
               refine norm_ (a':=?_) ?_ ?_
               rotate_left
               ·show Act.put _ (some 35) _ = _
                simp only [Act.put,List.setIfInBounds_toArray,List.set_cons_zero,List.set_cons_succ,i64_w,i32_w]
                rfl
               exact norm_ (by simp only [putAll,Act.put,List.setIfInBounds_toArray,List.set_cons_zero,List.set_cons_succ]) (hCont (Ab) _ ⟨hHeld,(by (with_reducible repeat (first|apply Kd.R_alloc|apply Kd.R_drewN|apply Kd.R_drew));exact Kd.R_mono Aa.out (fun _ hk=>hk.2)),(qDs16_ BK257.out),(qDs16_ Af.out),Aq.out,Ap.out,Ac.out,Ag.out,qBs16_4⟩)
             ·skip
              refine box_step ?hg (N:=8) ?hd (cs:=#[.int .i64 0,.int .i64 0,.int .i64 0,.int .i64 0,.int .i64 0,.int .i64 0,.int .i64 0]) (t:=44) ?hr ?_;(case hd=>rfl);(case hg=>rfl);(case hr=>first|(go_simp;done)|(go_simp;rfl))
              intro Ab hg w23 hbox hb
              have HS5_:=(hb.cell (World.block_lt_of_cell? _ _ (hHeld.2.2.2.2.2.1))).trans (hHeld.2.2.2.2.2.1)
              have HS6_:=(hb.cell (World.block_lt_of_cell? _ _ (hHeld.2.2.2.2.2.2.1))).trans (hHeld.2.2.2.2.2.2.1)
              have HS7_:=(hb.cell (World.block_lt_of_cell? _ _ (hHeld.2.2.2.2.2.2.2.1))).trans (hHeld.2.2.2.2.2.2.2.1)
              have HS8_:=(hb.cell (World.block_lt_of_cell? _ _ (hHeld.2.2.2.2.2.2.2.2.1))).trans (hHeld.2.2.2.2.2.2.2.2.1)
              have HS9_:=(hb.cell (World.block_lt_of_cell? _ _ (hHeld.2.2.2.2.2.2.2.2.2.1))).trans (hHeld.2.2.2.2.2.2.2.2.2.1)
              have HS10_:=(hb.cell (World.block_lt_of_cell? _ _ (hHeld.2.2.2.2.2.2.2.2.2.2.1))).trans (hHeld.2.2.2.2.2.2.2.2.2.2.1)
              have HS11_:=(hb.cell (World.block_lt_of_cell? _ _ (hHeld.2.2.2.2.2.2.2.2.2.2.2))).trans (hHeld.2.2.2.2.2.2.2.2.2.2.2)
              have n0_:=Aside0.mk (Kd.R_below (Kd.R_elderB (qRs16_ Aa.out) Ab (Nat.le_of_eq hg.symm)) hb)
              have n1_:=Aside0.mk (blk_below (g:=gb257) (o:=.cells #[.int .i64 a0_0,.int .i64 a0_1,.slice A0_2 l0_2.length c0_2,.int .i64 a0_3,.int .u32 a0_4] 25 (0,0)) (qDs16_ BK257.out) hb)
              have n2_:=Aside0.mk (below_step qBs16_3 hb)
              have n3_:=Aside0.mk (hbox)
              have n4_:=Aside0.mk ((by rw [hg];exact (below_size qBs16_3) : w.heap.size ≤ Ab))
              have n5_:=Aside0.mk ((by rw [hg];exact (below_size qBs16_3) : w.heap.size ≤ Ab))
              have n6_:=Aside0.mk ((by rw [hg];exact Nat.ne_of_lt (blk_lt (g:=gb257) (o:=.cells #[.int .i64 a0_0,.int .i64 a0_1,.slice A0_2 l0_2.length c0_2,.int .i64 a0_3,.int .u32 a0_4] 25 (0,0)) (qDs16_ BK257.out)) : gb257 ≠ Ab))
              have n7_:=Aside0.mk ((by rw [hg];exact Nat.ne_of_gt (blk_lt (g:=gb257) (o:=.cells #[.int .i64 a0_0,.int .i64 a0_1,.slice A0_2 l0_2.length c0_2,.int .i64 a0_3,.int .u32 a0_4] 25 (0,0)) (qDs16_ BK257.out)) : Ab ≠ gb257))
              clear Aa
              clear BK257
              clear HB
              have Aa:=n0_
              have BK257:=n1_
              have HB:=n2_
              have Af:=n3_
              have Aq:=n4_
              have Ap:=n5_
              have Ac:=n6_
              have Ag:=n7_
              clear n0_ n1_ n2_ n3_ n4_ n5_ n6_ n7_
              clear hb hbox hg
              refine hK.out _ _ ⟨(blk_cell BK257.out 0).trans rfl,(blk_cell BK257.out 1).trans rfl,(blk_cell BK257.out 2).trans rfl,(blk_cell BK257.out 3).trans rfl,(blk_cell BK257.out 4).trans rfl,HS5_,HS6_,HS7_,HS8_,HS9_,HS10_,HS11_⟩ (fun hHeld=>?_)
              clear hK K
              refine norm_ (a':=?_) ?_ ?_
              rotate_left
              ·show Act.put _ (some 8) _ = _
               simp only [Act.put,List.setIfInBounds_toArray,List.set_cons_zero,List.set_cons_succ,i64_w,i32_w]
               rfl
              refine one_ (i:=6) (N:=some 34) #[true,true,true,true,true,true,true,false,true,false] rfl rfl (one_of HT_.out (by kernel_rfl)) (by decide) (fun K hK=>?_)
              refine goes_ Try.func18 (by kernel_rfl) rfl #[.agg #[.int .i64 a0_0,.int .i64 a0_1,.slice A0_2 l0_2.length c0_2,.int .i64 a0_3,.int .u32 a0_4],.int .i64 Aj] (by rfl) rfl rfl qAs16_5 ?_
              with_reducible refine (kinds_by.calls a0_0 a0_1 _ _ l0_2 a0_3 a0_4 Aj Ar As At Au Av Aw Ax _ ?side1 ?side2 A17.out).mono ?_
              (case side1=>repeat (first|exact (Kd.C_below HR0_2.out HB.out)|(with_reducible refine Kd.C_alloc ?_ _)|(with_reducible refine Kd.C_drewN ?_ _)|(with_reducible refine Kd.C_drew ?_)))
              (case side2=>exact HC0_2.out)
              rintro e w24 ⟨rfl,hb⟩
              have HS5_:=(hb.cell (World.block_lt_of_cell? _ _ (hHeld.2.2.2.2.2.1))).trans (hHeld.2.2.2.2.2.1)
              have HS6_:=(hb.cell (World.block_lt_of_cell? _ _ (hHeld.2.2.2.2.2.2.1))).trans (hHeld.2.2.2.2.2.2.1)
              have HS7_:=(hb.cell (World.block_lt_of_cell? _ _ (hHeld.2.2.2.2.2.2.2.1))).trans (hHeld.2.2.2.2.2.2.2.1)
              have HS8_:=(hb.cell (World.block_lt_of_cell? _ _ (hHeld.2.2.2.2.2.2.2.2.1))).trans (hHeld.2.2.2.2.2.2.2.2.1)
              have HS9_:=(hb.cell (World.block_lt_of_cell? _ _ (hHeld.2.2.2.2.2.2.2.2.2.1))).trans (hHeld.2.2.2.2.2.2.2.2.2.1)
              have HS10_:=(hb.cell (World.block_lt_of_cell? _ _ (hHeld.2.2.2.2.2.2.2.2.2.2.1))).trans (hHeld.2.2.2.2.2.2.2.2.2.2.1)
              have HS11_:=(hb.cell (World.block_lt_of_cell? _ _ (hHeld.2.2.2.2.2.2.2.2.2.2.2))).trans (hHeld.2.2.2.2.2.2.2.2.2.2.2)
              refine ⟨_,rfl,?_⟩
              have n0_:=Aside0.mk (Kd.R_below (qRs16_ Aa.out) hb)
              have n1_:=Aside0.mk (blk_below (g:=gb257) (o:=.cells #[.int .i64 a0_0,.int .i64 a0_1,.slice A0_2 l0_2.length c0_2,.int .i64 a0_3,.int .u32 a0_4] 25 (0,0)) (qDs16_ BK257.out) hb)
              have n2_:=Aside0.mk (blk_below (g:=Ab) (o:=.cells #[.int .i64 0,.int .i64 0,.int .i64 0,.int .i64 0,.int .i64 0,.int .i64 0,.int .i64 0] 44 (0,0)) (qDs16_ Af.out) hb)
              have n3_:=Aside0.mk (below_step qBs16_4 hb)
              clear Aa
              clear BK257
              clear Af
              clear HB
              have Aa:=n0_
              have BK257:=n1_
              have Af:=n2_
              have HB:=n3_
              clear n0_ n1_ n2_ n3_
              (try clear hb)
              (try clear hb2)
              (try clear hk)
              (try clear hi)
              refine hK.out _ _ ⟨(blk_cell BK257.out 0).trans rfl,(blk_cell BK257.out 1).trans rfl,(blk_cell BK257.out 2).trans rfl,(blk_cell BK257.out 3).trans rfl,(blk_cell BK257.out 4).trans rfl,HS5_,HS6_,HS7_,HS8_,HS9_,HS10_,HS11_⟩ (fun hHeld=>?_)
              clear hK K
              refine norm_ (a':=?_) ?_ ?_
              rotate_left
              ·show Act.put _ (some 34) _ = _
               simp only [Act.put,List.setIfInBounds_toArray,List.set_cons_zero,List.set_cons_succ,i64_w,i32_w]
               rfl
              refine one_ (i:=7) (N:=some 35) #[true,true,true,true,true,true,true,true,true,false] rfl rfl (one_of HT_.out (by kernel_rfl)) (by decide) (fun K hK=>?_)
              refine goes_ Try.func17 (by kernel_rfl) rfl #[.agg #[.int .i64 ((rd_T44 Ae Ad).f0),.int .i64 ((rd_T44 Ae Ad).f1),.int .i64 ((rd_T44 Ae Ad).f2),.int .i64 ((rd_T44 Ae Ad).f3),.int .i64 ((rd_T44 Ae Ad).f4),.int .i64 ((rd_T44 Ae Ad).f5),.int .i64 ((rd_T44 Ae Ad).f6)],.agg #[.int .i64 Ar,.int .i64 As,.int .i64 At,.int .i64 Au,.int .i64 Av,.int .i64 Aw,.int .i64 Ax]] (by rfl) rfl rfl qAs16_5 ?_
              with_reducible refine (kinds_move_then.calls ((rd_T44 Ae Ad).f0) ((rd_T44 Ae Ad).f1) ((rd_T44 Ae Ad).f2) ((rd_T44 Ae Ad).f3) ((rd_T44 Ae Ad).f4) ((rd_T44 Ae Ad).f5) ((rd_T44 Ae Ad).f6) Ar As At Au Av Aw Ax Ah Ai Ak Al Am An Ao _ A18.out).mono ?_
              rintro e w25 ⟨rfl,hb⟩
              have HS5_:=(hb.cell (World.block_lt_of_cell? _ _ (hHeld.2.2.2.2.2.1))).trans (hHeld.2.2.2.2.2.1)
              have HS6_:=(hb.cell (World.block_lt_of_cell? _ _ (hHeld.2.2.2.2.2.2.1))).trans (hHeld.2.2.2.2.2.2.1)
              have HS7_:=(hb.cell (World.block_lt_of_cell? _ _ (hHeld.2.2.2.2.2.2.2.1))).trans (hHeld.2.2.2.2.2.2.2.1)
              have HS8_:=(hb.cell (World.block_lt_of_cell? _ _ (hHeld.2.2.2.2.2.2.2.2.1))).trans (hHeld.2.2.2.2.2.2.2.2.1)
              have HS9_:=(hb.cell (World.block_lt_of_cell? _ _ (hHeld.2.2.2.2.2.2.2.2.2.1))).trans (hHeld.2.2.2.2.2.2.2.2.2.1)
              have HS10_:=(hb.cell (World.block_lt_of_cell? _ _ (hHeld.2.2.2.2.2.2.2.2.2.2.1))).trans (hHeld.2.2.2.2.2.2.2.2.2.2.1)
              have HS11_:=(hb.cell (World.block_lt_of_cell? _ _ (hHeld.2.2.2.2.2.2.2.2.2.2.2))).trans (hHeld.2.2.2.2.2.2.2.2.2.2.2)
              refine ⟨_,rfl,?_⟩
              have n0_:=Aside0.mk (Kd.R_below (qRs16_ Aa.out) hb)
              have n1_:=Aside0.mk (blk_below (g:=gb257) (o:=.cells #[.int .i64 a0_0,.int .i64 a0_1,.slice A0_2 l0_2.length c0_2,.int .i64 a0_3,.int .u32 a0_4] 25 (0,0)) (qDs16_ BK257.out) hb)
              have n2_:=Aside0.mk (blk_below (g:=Ab) (o:=.cells #[.int .i64 0,.int .i64 0,.int .i64 0,.int .i64 0,.int .i64 0,.int .i64 0,.int .i64 0] 44 (0,0)) (qDs16_ Af.out) hb)
              have n3_:=Aside0.mk (below_step qBs16_4 hb)
              clear Aa
              clear BK257
              clear Af
              clear HB
              have Aa:=n0_
              have BK257:=n1_
              have Af:=n2_
              have HB:=n3_
              clear n0_ n1_ n2_ n3_
              (try clear hb)
              (try clear hb2)
              (try clear hk)
              (try clear hi)
              refine hK.out _ _ ⟨(blk_cell BK257.out 0).trans rfl,(blk_cell BK257.out 1).trans rfl,(blk_cell BK257.out 2).trans rfl,(blk_cell BK257.out 3).trans rfl,(blk_cell BK257.out 4).trans rfl,HS5_,HS6_,HS7_,HS8_,HS9_,HS10_,HS11_⟩ (fun hHeld=>?_)
              clear hK K
              refine norm_ (a':=?_) ?_ ?_
              rotate_left
              ·show Act.put _ (some 35) _ = _
               simp only [Act.put,List.setIfInBounds_toArray,List.set_cons_zero,List.set_cons_succ,i64_w,i32_w]
               rfl
              exact norm_ (by simp only [putAll,Act.put,List.setIfInBounds_toArray,List.set_cons_zero,List.set_cons_succ]) (hCont (Ab) _ ⟨hHeld,(by (with_reducible repeat (first|apply Kd.R_alloc|apply Kd.R_drewN|apply Kd.R_drew));exact Kd.R_mono Aa.out (fun _ hk=>hk.2)),(qDs16_ BK257.out),(qDs16_ Af.out),Aq.out,Ap.out,Ac.out,Ag.out,qBs16_4⟩)
            rintro Ab w26 ⟨hS_,h0_,h1_,h2_,h3_,h4_,h5_,h6_,h7_⟩
            have n0_ : Aside0 (Kd.R k44 44 w26 w.heap.size (fun k_=>k_ ≠ Ab) (.slice (some ad268) Ae.length co22) Ae):=⟨h0_⟩
            have n1_ : Aside0 (w26.heap[gb257]? = some (.cells #[.int .i64 a0_0,.int .i64 a0_1,.slice A0_2 l0_2.length c0_2,.int .i64 a0_3,.int .u32 a0_4] 25 (0,0))):=⟨h1_⟩
            have n2_ : Aside0 (w26.heap[Ab]? = some (.cells #[.int .i64 0,.int .i64 0,.int .i64 0,.int .i64 0,.int .i64 0,.int .i64 0,.int .i64 0] 44 (0,0))):=⟨h2_⟩
            have n3_ : Aside0 (w.heap.size ≤ Ab):=⟨h3_⟩
            have n4_ : Aside0 (w.heap.size ≤ Ab):=⟨h4_⟩
            have n5_ : Aside0 (gb257 ≠ Ab):=⟨h5_⟩
            have n6_ : Aside0 (Ab ≠ gb257):=⟨h6_⟩
            have n7_ : Aside0 (Below w.heap.size w w26):=⟨h7_⟩
            clear Aa
            clear BK257
            clear HB
            clear h0_ h1_ h2_ h3_ h4_ h5_ h6_ h7_
            have Aa:=n0_
            have BK257:=n1_
            have Af:=n2_
            have Aq:=n3_
            have Ap:=n4_
            have Ac:=n5_
            have Ag:=n6_
            have HB:=n7_
            clear n0_ n1_ n2_ n3_ n4_ n5_ n6_ n7_
            have hHeld : w26.cell? ⟨gb257,0,none⟩ = some (.int .i64 a0_0) ∧ w26.cell? ⟨gb257,1,none⟩ = some (.int .i64 a0_1) ∧ w26.cell? ⟨gb257,2,none⟩ = some (.slice A0_2 l0_2.length c0_2) ∧ w26.cell? ⟨gb257,3,none⟩ = some (.int .i64 a0_3) ∧ w26.cell? ⟨gb257,4,none⟩ = some (.int .u32 a0_4) ∧ w26.cell? (ad268.add ((Ad).toNat * 7)) = some (.int .i64 ((rd_T44 Ae Ad).f0)) ∧ w26.cell? ⟨(ad268.add ((Ad).toNat * 7)).block,(ad268.add ((Ad).toNat * 7)).off + 1,none⟩ = some (.int .i64 ((rd_T44 Ae Ad).f1)) ∧ w26.cell? ⟨(ad268.add ((Ad).toNat * 7)).block,(ad268.add ((Ad).toNat * 7)).off + 2,none⟩ = some (.int .i64 ((rd_T44 Ae Ad).f2)) ∧ w26.cell? ⟨(ad268.add ((Ad).toNat * 7)).block,(ad268.add ((Ad).toNat * 7)).off + 3,none⟩ = some (.int .i64 ((rd_T44 Ae Ad).f3)) ∧ w26.cell? ⟨(ad268.add ((Ad).toNat * 7)).block,(ad268.add ((Ad).toNat * 7)).off + 4,none⟩ = some (.int .i64 ((rd_T44 Ae Ad).f4)) ∧ w26.cell? ⟨(ad268.add ((Ad).toNat * 7)).block,(ad268.add ((Ad).toNat * 7)).off + 5,none⟩ = some (.int .i64 ((rd_T44 Ae Ad).f5)) ∧ w26.cell? ⟨(ad268.add ((Ad).toNat * 7)).block,(ad268.add ((Ad).toNat * 7)).off + 6,none⟩ = some (.int .i64 ((rd_T44 Ae Ad).f6)):=hS_
            refine norm_ (a':=?_) ?_ ?_
            rotate_left
            ·simp only [putAll,Act.put,List.setIfInBounds_toArray,List.set_cons_zero,List.set_cons_succ]
             rfl
            refine one_ (i:=9) (N:=none) #[true,true,true,true,true,true,true,true,true,true] rfl rfl (one_of HT_.out (by kernel_rfl)) (by decide) (fun K hK=>?_)
            have hs27 : w26.cell? ⟨Ab,0,none⟩ = some (.int .i64 0):=(blk_cell Af.out 0).trans rfl
            have hfs27:=blk_frozen Af.out 0
            have hns27_0:=Ac.out
            have hms27_0:=Ag.out
            have hs28 : w26.cell? ⟨Ab,1,none⟩ = some (.int .i64 0):=(blk_cell Af.out 1).trans rfl
            have hfs28:=blk_frozen Af.out 1
            have hns28_0:=Ac.out
            have hms28_0:=Ag.out
            have hs29 : w26.cell? ⟨Ab,2,none⟩ = some (.int .i64 0):=(blk_cell Af.out 2).trans rfl
            have hfs29:=blk_frozen Af.out 2
            have hns29_0:=Ac.out
            have hms29_0:=Ag.out
            have hs30 : w26.cell? ⟨Ab,3,none⟩ = some (.int .i64 0):=(blk_cell Af.out 3).trans rfl
            have hfs30:=blk_frozen Af.out 3
            have hns30_0:=Ac.out
            have hms30_0:=Ag.out
            have hs31 : w26.cell? ⟨Ab,4,none⟩ = some (.int .i64 0):=(blk_cell Af.out 4).trans rfl
            have hfs31:=blk_frozen Af.out 4
            have hns31_0:=Ac.out
            have hms31_0:=Ag.out
            have hs32 : w26.cell? ⟨Ab,5,none⟩ = some (.int .i64 0):=(blk_cell Af.out 5).trans rfl
            have hfs32:=blk_frozen Af.out 5
            have hns32_0:=Ac.out
            have hms32_0:=Ag.out
            have hs33 : w26.cell? ⟨Ab,6,none⟩ = some (.int .i64 0):=(blk_cell Af.out 6).trans rfl
            have hfs33:=blk_frozen Af.out 6
            have hns33_0:=Ac.out
            have hms33_0:=Ag.out
            refine skip_ (w1:=?_) (by rfl) rfl ?_ ?_
            rotate_left
            ·go_simp
             rfl
            refine hK.out _ _ ⟨((cell_far (p:=⟨Ab,_,none⟩) Ac.out _).trans (((cell_far (p:=⟨Ab,_,none⟩) Ac.out _).trans (((cell_far (p:=⟨Ab,_,none⟩) Ac.out _).trans (((cell_far (p:=⟨Ab,_,none⟩) Ac.out _).trans (((cell_far (p:=⟨Ab,_,none⟩) Ac.out _).trans (((cell_far (p:=⟨Ab,_,none⟩) Ac.out _).trans (((cell_far (p:=⟨Ab,_,none⟩) Ac.out _).trans (hHeld.1)))))))))))))),((cell_far (p:=⟨Ab,_,none⟩) Ac.out _).trans (((cell_far (p:=⟨Ab,_,none⟩) Ac.out _).trans (((cell_far (p:=⟨Ab,_,none⟩) Ac.out _).trans (((cell_far (p:=⟨Ab,_,none⟩) Ac.out _).trans (((cell_far (p:=⟨Ab,_,none⟩) Ac.out _).trans (((cell_far (p:=⟨Ab,_,none⟩) Ac.out _).trans (((cell_far (p:=⟨Ab,_,none⟩) Ac.out _).trans (hHeld.2.1)))))))))))))),((cell_far (p:=⟨Ab,_,none⟩) Ac.out _).trans (((cell_far (p:=⟨Ab,_,none⟩) Ac.out _).trans (((cell_far (p:=⟨Ab,_,none⟩) Ac.out _).trans (((cell_far (p:=⟨Ab,_,none⟩) Ac.out _).trans (((cell_far (p:=⟨Ab,_,none⟩) Ac.out _).trans (((cell_far (p:=⟨Ab,_,none⟩) Ac.out _).trans (((cell_far (p:=⟨Ab,_,none⟩) Ac.out _).trans (hHeld.2.2.1)))))))))))))),((cell_far (p:=⟨Ab,_,none⟩) Ac.out _).trans (((cell_far (p:=⟨Ab,_,none⟩) Ac.out _).trans (((cell_far (p:=⟨Ab,_,none⟩) Ac.out _).trans (((cell_far (p:=⟨Ab,_,none⟩) Ac.out _).trans (((cell_far (p:=⟨Ab,_,none⟩) Ac.out _).trans (((cell_far (p:=⟨Ab,_,none⟩) Ac.out _).trans (((cell_far (p:=⟨Ab,_,none⟩) Ac.out _).trans (hHeld.2.2.2.1)))))))))))))),((cell_far (p:=⟨Ab,_,none⟩) Ac.out _).trans (((cell_far (p:=⟨Ab,_,none⟩) Ac.out _).trans (((cell_far (p:=⟨Ab,_,none⟩) Ac.out _).trans (((cell_far (p:=⟨Ab,_,none⟩) Ac.out _).trans (((cell_far (p:=⟨Ab,_,none⟩) Ac.out _).trans (((cell_far (p:=⟨Ab,_,none⟩) Ac.out _).trans (((cell_far (p:=⟨Ab,_,none⟩) Ac.out _).trans (hHeld.2.2.2.2.1)))))))))))))),((cell_far (p:=⟨Ab,_,none⟩) (by first|exact Kd.own_blk (Kd.R_away Aa.out (fun _ hk=>hk))|(rw [add_block];exact Kd.own_blk (Kd.R_away Aa.out (fun _ hk=>hk)))|(show (Addr.add _ _).block ≠ _;rw [add_block];exact Kd.own_blk (Kd.R_away Aa.out (fun _ hk=>hk)))|(dsimp only;exact Kd.own_blk (Kd.R_away Aa.out (fun _ hk=>hk)))) _).trans (((cell_far (p:=⟨Ab,_,none⟩) (by first|exact Kd.own_blk (Kd.R_away Aa.out (fun _ hk=>hk))|(rw [add_block];exact Kd.own_blk (Kd.R_away Aa.out (fun _ hk=>hk)))|(show (Addr.add _ _).block ≠ _;rw [add_block];exact Kd.own_blk (Kd.R_away Aa.out (fun _ hk=>hk)))|(dsimp only;exact Kd.own_blk (Kd.R_away Aa.out (fun _ hk=>hk)))) _).trans (((cell_far (p:=⟨Ab,_,none⟩) (by first|exact Kd.own_blk (Kd.R_away Aa.out (fun _ hk=>hk))|(rw [add_block];exact Kd.own_blk (Kd.R_away Aa.out (fun _ hk=>hk)))|(show (Addr.add _ _).block ≠ _;rw [add_block];exact Kd.own_blk (Kd.R_away Aa.out (fun _ hk=>hk)))|(dsimp only;exact Kd.own_blk (Kd.R_away Aa.out (fun _ hk=>hk)))) _).trans (((cell_far (p:=⟨Ab,_,none⟩) (by first|exact Kd.own_blk (Kd.R_away Aa.out (fun _ hk=>hk))|(rw [add_block];exact Kd.own_blk (Kd.R_away Aa.out (fun _ hk=>hk)))|(show (Addr.add _ _).block ≠ _;rw [add_block];exact Kd.own_blk (Kd.R_away Aa.out (fun _ hk=>hk)))|(dsimp only;exact Kd.own_blk (Kd.R_away Aa.out (fun _ hk=>hk)))) _).trans (((cell_far (p:=⟨Ab,_,none⟩) (by first|exact Kd.own_blk (Kd.R_away Aa.out (fun _ hk=>hk))|(rw [add_block];exact Kd.own_blk (Kd.R_away Aa.out (fun _ hk=>hk)))|(show (Addr.add _ _).block ≠ _;rw [add_block];exact Kd.own_blk (Kd.R_away Aa.out (fun _ hk=>hk)))|(dsimp only;exact Kd.own_blk (Kd.R_away Aa.out (fun _ hk=>hk)))) _).trans (((cell_far (p:=⟨Ab,_,none⟩) (by first|exact Kd.own_blk (Kd.R_away Aa.out (fun _ hk=>hk))|(rw [add_block];exact Kd.own_blk (Kd.R_away Aa.out (fun _ hk=>hk)))|(show (Addr.add _ _).block ≠ _;rw [add_block];exact Kd.own_blk (Kd.R_away Aa.out (fun _ hk=>hk)))|(dsimp only;exact Kd.own_blk (Kd.R_away Aa.out (fun _ hk=>hk)))) _).trans (((cell_far (p:=⟨Ab,_,none⟩) (by first|exact Kd.own_blk (Kd.R_away Aa.out (fun _ hk=>hk))|(rw [add_block];exact Kd.own_blk (Kd.R_away Aa.out (fun _ hk=>hk)))|(show (Addr.add _ _).block ≠ _;rw [add_block];exact Kd.own_blk (Kd.R_away Aa.out (fun _ hk=>hk)))|(dsimp only;exact Kd.own_blk (Kd.R_away Aa.out (fun _ hk=>hk)))) _).trans (hHeld.2.2.2.2.2.1)))))))))))))),((cell_far (p:=⟨Ab,_,none⟩) (by first|exact Kd.own_blk (Kd.R_away Aa.out (fun _ hk=>hk))|(rw [add_block];exact Kd.own_blk (Kd.R_away Aa.out (fun _ hk=>hk)))|(show (Addr.add _ _).block ≠ _;rw [add_block];exact Kd.own_blk (Kd.R_away Aa.out (fun _ hk=>hk)))|(dsimp only;exact Kd.own_blk (Kd.R_away Aa.out (fun _ hk=>hk)))) _).trans (((cell_far (p:=⟨Ab,_,none⟩) (by first|exact Kd.own_blk (Kd.R_away Aa.out (fun _ hk=>hk))|(rw [add_block];exact Kd.own_blk (Kd.R_away Aa.out (fun _ hk=>hk)))|(show (Addr.add _ _).block ≠ _;rw [add_block];exact Kd.own_blk (Kd.R_away Aa.out (fun _ hk=>hk)))|(dsimp only;exact Kd.own_blk (Kd.R_away Aa.out (fun _ hk=>hk)))) _).trans (((cell_far (p:=⟨Ab,_,none⟩) (by first|exact Kd.own_blk (Kd.R_away Aa.out (fun _ hk=>hk))|(rw [add_block];exact Kd.own_blk (Kd.R_away Aa.out (fun _ hk=>hk)))|(show (Addr.add _ _).block ≠ _;rw [add_block];exact Kd.own_blk (Kd.R_away Aa.out (fun _ hk=>hk)))|(dsimp only;exact Kd.own_blk (Kd.R_away Aa.out (fun _ hk=>hk)))) _).trans (((cell_far (p:=⟨Ab,_,none⟩) (by first|exact Kd.own_blk (Kd.R_away Aa.out (fun _ hk=>hk))|(rw [add_block];exact Kd.own_blk (Kd.R_away Aa.out (fun _ hk=>hk)))|(show (Addr.add _ _).block ≠ _;rw [add_block];exact Kd.own_blk (Kd.R_away Aa.out (fun _ hk=>hk)))|(dsimp only;exact Kd.own_blk (Kd.R_away Aa.out (fun _ hk=>hk)))) _).trans (((cell_far (p:=⟨Ab,_,none⟩) (by first|exact Kd.own_blk (Kd.R_away Aa.out (fun _ hk=>hk))|(rw [add_block];exact Kd.own_blk (Kd.R_away Aa.out (fun _ hk=>hk)))|(show (Addr.add _ _).block ≠ _;rw [add_block];exact Kd.own_blk (Kd.R_away Aa.out (fun _ hk=>hk)))|(dsimp only;exact Kd.own_blk (Kd.R_away Aa.out (fun _ hk=>hk)))) _).trans (((cell_far (p:=⟨Ab,_,none⟩) (by first|exact Kd.own_blk (Kd.R_away Aa.out (fun _ hk=>hk))|(rw [add_block];exact Kd.own_blk (Kd.R_away Aa.out (fun _ hk=>hk)))|(show (Addr.add _ _).block ≠ _;rw [add_block];exact Kd.own_blk (Kd.R_away Aa.out (fun _ hk=>hk)))|(dsimp only;exact Kd.own_blk (Kd.R_away Aa.out (fun _ hk=>hk)))) _).trans (((cell_far (p:=⟨Ab,_,none⟩) (by first|exact Kd.own_blk (Kd.R_away Aa.out (fun _ hk=>hk))|(rw [add_block];exact Kd.own_blk (Kd.R_away Aa.out (fun _ hk=>hk)))|(show (Addr.add _ _).block ≠ _;rw [add_block];exact Kd.own_blk (Kd.R_away Aa.out (fun _ hk=>hk)))|(dsimp only;exact Kd.own_blk (Kd.R_away Aa.out (fun _ hk=>hk)))) _).trans (hHeld.2.2.2.2.2.2.1)))))))))))))),((cell_far (p:=⟨Ab,_,none⟩) (by first|exact Kd.own_blk (Kd.R_away Aa.out (fun _ hk=>hk))|(rw [add_block];exact Kd.own_blk (Kd.R_away Aa.out (fun _ hk=>hk)))|(show (Addr.add _ _).block ≠ _;rw [add_block];exact Kd.own_blk (Kd.R_away Aa.out (fun _ hk=>hk)))|(dsimp only;exact Kd.own_blk (Kd.R_away Aa.out (fun _ hk=>hk)))) _).trans (((cell_far (p:=⟨Ab,_,none⟩) (by first|exact Kd.own_blk (Kd.R_away Aa.out (fun _ hk=>hk))|(rw [add_block];exact Kd.own_blk (Kd.R_away Aa.out (fun _ hk=>hk)))|(show (Addr.add _ _).block ≠ _;rw [add_block];exact Kd.own_blk (Kd.R_away Aa.out (fun _ hk=>hk)))|(dsimp only;exact Kd.own_blk (Kd.R_away Aa.out (fun _ hk=>hk)))) _).trans (((cell_far (p:=⟨Ab,_,none⟩) (by first|exact Kd.own_blk (Kd.R_away Aa.out (fun _ hk=>hk))|(rw [add_block];exact Kd.own_blk (Kd.R_away Aa.out (fun _ hk=>hk)))|(show (Addr.add _ _).block ≠ _;rw [add_block];exact Kd.own_blk (Kd.R_away Aa.out (fun _ hk=>hk)))|(dsimp only;exact Kd.own_blk (Kd.R_away Aa.out (fun _ hk=>hk)))) _).trans (((cell_far (p:=⟨Ab,_,none⟩) (by first|exact Kd.own_blk (Kd.R_away Aa.out (fun _ hk=>hk))|(rw [add_block];exact Kd.own_blk (Kd.R_away Aa.out (fun _ hk=>hk)))|(show (Addr.add _ _).block ≠ _;rw [add_block];exact Kd.own_blk (Kd.R_away Aa.out (fun _ hk=>hk)))|(dsimp only;exact Kd.own_blk (Kd.R_away Aa.out (fun _ hk=>hk)))) _).trans (((cell_far (p:=⟨Ab,_,none⟩) (by first|exact Kd.own_blk (Kd.R_away Aa.out (fun _ hk=>hk))|(rw [add_block];exact Kd.own_blk (Kd.R_away Aa.out (fun _ hk=>hk)))|(show (Addr.add _ _).block ≠ _;rw [add_block];exact Kd.own_blk (Kd.R_away Aa.out (fun _ hk=>hk)))|(dsimp only;exact Kd.own_blk (Kd.R_away Aa.out (fun _ hk=>hk)))) _).trans (((cell_far (p:=⟨Ab,_,none⟩) (by first|exact Kd.own_blk (Kd.R_away Aa.out (fun _ hk=>hk))|(rw [add_block];exact Kd.own_blk (Kd.R_away Aa.out (fun _ hk=>hk)))|(show (Addr.add _ _).block ≠ _;rw [add_block];exact Kd.own_blk (Kd.R_away Aa.out (fun _ hk=>hk)))|(dsimp only;exact Kd.own_blk (Kd.R_away Aa.out (fun _ hk=>hk)))) _).trans (((cell_far (p:=⟨Ab,_,none⟩) (by first|exact Kd.own_blk (Kd.R_away Aa.out (fun _ hk=>hk))|(rw [add_block];exact Kd.own_blk (Kd.R_away Aa.out (fun _ hk=>hk)))|(show (Addr.add _ _).block ≠ _;rw [add_block];exact Kd.own_blk (Kd.R_away Aa.out (fun _ hk=>hk)))|(dsimp only;exact Kd.own_blk (Kd.R_away Aa.out (fun _ hk=>hk)))) _).trans (hHeld.2.2.2.2.2.2.2.1)))))))))))))),((cell_far (p:=⟨Ab,_,none⟩) (by first|exact Kd.own_blk (Kd.R_away Aa.out (fun _ hk=>hk))|(rw [add_block];exact Kd.own_blk (Kd.R_away Aa.out (fun _ hk=>hk)))|(show (Addr.add _ _).block ≠ _;rw [add_block];exact Kd.own_blk (Kd.R_away Aa.out (fun _ hk=>hk)))|(dsimp only;exact Kd.own_blk (Kd.R_away Aa.out (fun _ hk=>hk)))) _).trans (((cell_far (p:=⟨Ab,_,none⟩) (by first|exact Kd.own_blk (Kd.R_away Aa.out (fun _ hk=>hk))|(rw [add_block];exact Kd.own_blk (Kd.R_away Aa.out (fun _ hk=>hk)))|(show (Addr.add _ _).block ≠ _;rw [add_block];exact Kd.own_blk (Kd.R_away Aa.out (fun _ hk=>hk)))|(dsimp only;exact Kd.own_blk (Kd.R_away Aa.out (fun _ hk=>hk)))) _).trans (((cell_far (p:=⟨Ab,_,none⟩) (by first|exact Kd.own_blk (Kd.R_away Aa.out (fun _ hk=>hk))|(rw [add_block];exact Kd.own_blk (Kd.R_away Aa.out (fun _ hk=>hk)))|(show (Addr.add _ _).block ≠ _;rw [add_block];exact Kd.own_blk (Kd.R_away Aa.out (fun _ hk=>hk)))|(dsimp only;exact Kd.own_blk (Kd.R_away Aa.out (fun _ hk=>hk)))) _).trans (((cell_far (p:=⟨Ab,_,none⟩) (by first|exact Kd.own_blk (Kd.R_away Aa.out (fun _ hk=>hk))|(rw [add_block];exact Kd.own_blk (Kd.R_away Aa.out (fun _ hk=>hk)))|(show (Addr.add _ _).block ≠ _;rw [add_block];exact Kd.own_blk (Kd.R_away Aa.out (fun _ hk=>hk)))|(dsimp only;exact Kd.own_blk (Kd.R_away Aa.out (fun _ hk=>hk)))) _).trans (((cell_far (p:=⟨Ab,_,none⟩) (by first|exact Kd.own_blk (Kd.R_away Aa.out (fun _ hk=>hk))|(rw [add_block];exact Kd.own_blk (Kd.R_away Aa.out (fun _ hk=>hk)))|(show (Addr.add _ _).block ≠ _;rw [add_block];exact Kd.own_blk (Kd.R_away Aa.out (fun _ hk=>hk)))|(dsimp only;exact Kd.own_blk (Kd.R_away Aa.out (fun _ hk=>hk)))) _).trans (((cell_far (p:=⟨Ab,_,none⟩) (by first|exact Kd.own_blk (Kd.R_away Aa.out (fun _ hk=>hk))|(rw [add_block];exact Kd.own_blk (Kd.R_away Aa.out (fun _ hk=>hk)))|(show (Addr.add _ _).block ≠ _;rw [add_block];exact Kd.own_blk (Kd.R_away Aa.out (fun _ hk=>hk)))|(dsimp only;exact Kd.own_blk (Kd.R_away Aa.out (fun _ hk=>hk)))) _).trans (((cell_far (p:=⟨Ab,_,none⟩) (by first|exact Kd.own_blk (Kd.R_away Aa.out (fun _ hk=>hk))|(rw [add_block];exact Kd.own_blk (Kd.R_away Aa.out (fun _ hk=>hk)))|(show (Addr.add _ _).block ≠ _;rw [add_block];exact Kd.own_blk (Kd.R_away Aa.out (fun _ hk=>hk)))|(dsimp only;exact Kd.own_blk (Kd.R_away Aa.out (fun _ hk=>hk)))) _).trans (hHeld.2.2.2.2.2.2.2.2.1)))))))))))))),((cell_far (p:=⟨Ab,_,none⟩) (by first|exact Kd.own_blk (Kd.R_away Aa.out (fun _ hk=>hk))|(rw [add_block];exact Kd.own_blk (Kd.R_away Aa.out (fun _ hk=>hk)))|(show (Addr.add _ _).block ≠ _;rw [add_block];exact Kd.own_blk (Kd.R_away Aa.out (fun _ hk=>hk)))|(dsimp only;exact Kd.own_blk (Kd.R_away Aa.out (fun _ hk=>hk)))) _).trans (((cell_far (p:=⟨Ab,_,none⟩) (by first|exact Kd.own_blk (Kd.R_away Aa.out (fun _ hk=>hk))|(rw [add_block];exact Kd.own_blk (Kd.R_away Aa.out (fun _ hk=>hk)))|(show (Addr.add _ _).block ≠ _;rw [add_block];exact Kd.own_blk (Kd.R_away Aa.out (fun _ hk=>hk)))|(dsimp only;exact Kd.own_blk (Kd.R_away Aa.out (fun _ hk=>hk)))) _).trans (((cell_far (p:=⟨Ab,_,none⟩) (by first|exact Kd.own_blk (Kd.R_away Aa.out (fun _ hk=>hk))|(rw [add_block];exact Kd.own_blk (Kd.R_away Aa.out (fun _ hk=>hk)))|(show (Addr.add _ _).block ≠ _;rw [add_block];exact Kd.own_blk (Kd.R_away Aa.out (fun _ hk=>hk)))|(dsimp only;exact Kd.own_blk (Kd.R_away Aa.out (fun _ hk=>hk)))) _).trans (((cell_far (p:=⟨Ab,_,none⟩) (by first|exact Kd.own_blk (Kd.R_away Aa.out (fun _ hk=>hk))|(rw [add_block];exact Kd.own_blk (Kd.R_away Aa.out (fun _ hk=>hk)))|(show (Addr.add _ _).block ≠ _;rw [add_block];exact Kd.own_blk (Kd.R_away Aa.out (fun _ hk=>hk)))|(dsimp only;exact Kd.own_blk (Kd.R_away Aa.out (fun _ hk=>hk)))) _).trans (((cell_far (p:=⟨Ab,_,none⟩) (by first|exact Kd.own_blk (Kd.R_away Aa.out (fun _ hk=>hk))|(rw [add_block];exact Kd.own_blk (Kd.R_away Aa.out (fun _ hk=>hk)))|(show (Addr.add _ _).block ≠ _;rw [add_block];exact Kd.own_blk (Kd.R_away Aa.out (fun _ hk=>hk)))|(dsimp only;exact Kd.own_blk (Kd.R_away Aa.out (fun _ hk=>hk)))) _).trans (((cell_far (p:=⟨Ab,_,none⟩) (by first|exact Kd.own_blk (Kd.R_away Aa.out (fun _ hk=>hk))|(rw [add_block];exact Kd.own_blk (Kd.R_away Aa.out (fun _ hk=>hk)))|(show (Addr.add _ _).block ≠ _;rw [add_block];exact Kd.own_blk (Kd.R_away Aa.out (fun _ hk=>hk)))|(dsimp only;exact Kd.own_blk (Kd.R_away Aa.out (fun _ hk=>hk)))) _).trans (((cell_far (p:=⟨Ab,_,none⟩) (by first|exact Kd.own_blk (Kd.R_away Aa.out (fun _ hk=>hk))|(rw [add_block];exact Kd.own_blk (Kd.R_away Aa.out (fun _ hk=>hk)))|(show (Addr.add _ _).block ≠ _;rw [add_block];exact Kd.own_blk (Kd.R_away Aa.out (fun _ hk=>hk)))|(dsimp only;exact Kd.own_blk (Kd.R_away Aa.out (fun _ hk=>hk)))) _).trans (hHeld.2.2.2.2.2.2.2.2.2.1)))))))))))))),((cell_far (p:=⟨Ab,_,none⟩) (by first|exact Kd.own_blk (Kd.R_away Aa.out (fun _ hk=>hk))|(rw [add_block];exact Kd.own_blk (Kd.R_away Aa.out (fun _ hk=>hk)))|(show (Addr.add _ _).block ≠ _;rw [add_block];exact Kd.own_blk (Kd.R_away Aa.out (fun _ hk=>hk)))|(dsimp only;exact Kd.own_blk (Kd.R_away Aa.out (fun _ hk=>hk)))) _).trans (((cell_far (p:=⟨Ab,_,none⟩) (by first|exact Kd.own_blk (Kd.R_away Aa.out (fun _ hk=>hk))|(rw [add_block];exact Kd.own_blk (Kd.R_away Aa.out (fun _ hk=>hk)))|(show (Addr.add _ _).block ≠ _;rw [add_block];exact Kd.own_blk (Kd.R_away Aa.out (fun _ hk=>hk)))|(dsimp only;exact Kd.own_blk (Kd.R_away Aa.out (fun _ hk=>hk)))) _).trans (((cell_far (p:=⟨Ab,_,none⟩) (by first|exact Kd.own_blk (Kd.R_away Aa.out (fun _ hk=>hk))|(rw [add_block];exact Kd.own_blk (Kd.R_away Aa.out (fun _ hk=>hk)))|(show (Addr.add _ _).block ≠ _;rw [add_block];exact Kd.own_blk (Kd.R_away Aa.out (fun _ hk=>hk)))|(dsimp only;exact Kd.own_blk (Kd.R_away Aa.out (fun _ hk=>hk)))) _).trans (((cell_far (p:=⟨Ab,_,none⟩) (by first|exact Kd.own_blk (Kd.R_away Aa.out (fun _ hk=>hk))|(rw [add_block];exact Kd.own_blk (Kd.R_away Aa.out (fun _ hk=>hk)))|(show (Addr.add _ _).block ≠ _;rw [add_block];exact Kd.own_blk (Kd.R_away Aa.out (fun _ hk=>hk)))|(dsimp only;exact Kd.own_blk (Kd.R_away Aa.out (fun _ hk=>hk)))) _).trans (((cell_far (p:=⟨Ab,_,none⟩) (by first|exact Kd.own_blk (Kd.R_away Aa.out (fun _ hk=>hk))|(rw [add_block];exact Kd.own_blk (Kd.R_away Aa.out (fun _ hk=>hk)))|(show (Addr.add _ _).block ≠ _;rw [add_block];exact Kd.own_blk (Kd.R_away Aa.out (fun _ hk=>hk)))|(dsimp only;exact Kd.own_blk (Kd.R_away Aa.out (fun _ hk=>hk)))) _).trans (((cell_far (p:=⟨Ab,_,none⟩) (by first|exact Kd.own_blk (Kd.R_away Aa.out (fun _ hk=>hk))|(rw [add_block];exact Kd.own_blk (Kd.R_away Aa.out (fun _ hk=>hk)))|(show (Addr.add _ _).block ≠ _;rw [add_block];exact Kd.own_blk (Kd.R_away Aa.out (fun _ hk=>hk)))|(dsimp only;exact Kd.own_blk (Kd.R_away Aa.out (fun _ hk=>hk)))) _).trans (((cell_far (p:=⟨Ab,_,none⟩) (by first|exact Kd.own_blk (Kd.R_away Aa.out (fun _ hk=>hk))|(rw [add_block];exact Kd.own_blk (Kd.R_away Aa.out (fun _ hk=>hk)))|(show (Addr.add _ _).block ≠ _;rw [add_block];exact Kd.own_blk (Kd.R_away Aa.out (fun _ hk=>hk)))|(dsimp only;exact Kd.own_blk (Kd.R_away Aa.out (fun _ hk=>hk)))) _).trans (hHeld.2.2.2.2.2.2.2.2.2.2.1)))))))))))))),((cell_far (p:=⟨Ab,_,none⟩) (by first|exact Kd.own_blk (Kd.R_away Aa.out (fun _ hk=>hk))|(rw [add_block];exact Kd.own_blk (Kd.R_away Aa.out (fun _ hk=>hk)))|(show (Addr.add _ _).block ≠ _;rw [add_block];exact Kd.own_blk (Kd.R_away Aa.out (fun _ hk=>hk)))|(dsimp only;exact Kd.own_blk (Kd.R_away Aa.out (fun _ hk=>hk)))) _).trans (((cell_far (p:=⟨Ab,_,none⟩) (by first|exact Kd.own_blk (Kd.R_away Aa.out (fun _ hk=>hk))|(rw [add_block];exact Kd.own_blk (Kd.R_away Aa.out (fun _ hk=>hk)))|(show (Addr.add _ _).block ≠ _;rw [add_block];exact Kd.own_blk (Kd.R_away Aa.out (fun _ hk=>hk)))|(dsimp only;exact Kd.own_blk (Kd.R_away Aa.out (fun _ hk=>hk)))) _).trans (((cell_far (p:=⟨Ab,_,none⟩) (by first|exact Kd.own_blk (Kd.R_away Aa.out (fun _ hk=>hk))|(rw [add_block];exact Kd.own_blk (Kd.R_away Aa.out (fun _ hk=>hk)))|(show (Addr.add _ _).block ≠ _;rw [add_block];exact Kd.own_blk (Kd.R_away Aa.out (fun _ hk=>hk)))|(dsimp only;exact Kd.own_blk (Kd.R_away Aa.out (fun _ hk=>hk)))) _).trans (((cell_far (p:=⟨Ab,_,none⟩) (by first|exact Kd.own_blk (Kd.R_away Aa.out (fun _ hk=>hk))|(rw [add_block];exact Kd.own_blk (Kd.R_away Aa.out (fun _ hk=>hk)))|(show (Addr.add _ _).block ≠ _;rw [add_block];exact Kd.own_blk (Kd.R_away Aa.out (fun _ hk=>hk)))|(dsimp only;exact Kd.own_blk (Kd.R_away Aa.out (fun _ hk=>hk)))) _).trans (((cell_far (p:=⟨Ab,_,none⟩) (by first|exact Kd.own_blk (Kd.R_away Aa.out (fun _ hk=>hk))|(rw [add_block];exact Kd.own_blk (Kd.R_away Aa.out (fun _ hk=>hk)))|(show (Addr.add _ _).block ≠ _;rw [add_block];exact Kd.own_blk (Kd.R_away Aa.out (fun _ hk=>hk)))|(dsimp only;exact Kd.own_blk (Kd.R_away Aa.out (fun _ hk=>hk)))) _).trans (((cell_far (p:=⟨Ab,_,none⟩) (by first|exact Kd.own_blk (Kd.R_away Aa.out (fun _ hk=>hk))|(rw [add_block];exact Kd.own_blk (Kd.R_away Aa.out (fun _ hk=>hk)))|(show (Addr.add _ _).block ≠ _;rw [add_block];exact Kd.own_blk (Kd.R_away Aa.out (fun _ hk=>hk)))|(dsimp only;exact Kd.own_blk (Kd.R_away Aa.out (fun _ hk=>hk)))) _).trans (((cell_far (p:=⟨Ab,_,none⟩) (by first|exact Kd.own_blk (Kd.R_away Aa.out (fun _ hk=>hk))|(rw [add_block];exact Kd.own_blk (Kd.R_away Aa.out (fun _ hk=>hk)))|(show (Addr.add _ _).block ≠ _;rw [add_block];exact Kd.own_blk (Kd.R_away Aa.out (fun _ hk=>hk)))|(dsimp only;exact Kd.own_blk (Kd.R_away Aa.out (fun _ hk=>hk)))) _).trans (hHeld.2.2.2.2.2.2.2.2.2.2.2))))))))))))))⟩ (fun hHeld=>?_)
            clear hK K
            refine done_ (done_of HT_.out (by kernel_rfl)) ?_
            have hnb34:=Ag.out
            have hnc34:=Ac.out
            have hcz35_0 : w26.cell? ⟨Ab,0,none⟩ = some (.int .i64 0):=(blk_cell Af.out 0).trans rfl
            have hcz35_1 : w26.cell? ⟨Ab,1,none⟩ = some (.int .i64 0):=(blk_cell Af.out 1).trans rfl
            have hcz35_2 : w26.cell? ⟨Ab,2,none⟩ = some (.int .i64 0):=(blk_cell Af.out 2).trans rfl
            have hcz35_3 : w26.cell? ⟨Ab,3,none⟩ = some (.int .i64 0):=(blk_cell Af.out 3).trans rfl
            have hcz35_4 : w26.cell? ⟨Ab,4,none⟩ = some (.int .i64 0):=(blk_cell Af.out 4).trans rfl
            have hcz35_5 : w26.cell? ⟨Ab,5,none⟩ = some (.int .i64 0):=(blk_cell Af.out 5).trans rfl
            have hcz35_6 : w26.cell? ⟨Ab,6,none⟩ = some (.int .i64 0):=(blk_cell Af.out 6).trans rfl
            have hfz35_0:=blk_frozen Af.out 0
            have hfz35_1:=blk_frozen Af.out 1
            have hfz35_2:=blk_frozen Af.out 2
            have hfz35_3:=blk_frozen Af.out 3
            have hfz35_4:=blk_frozen Af.out 4
            have hfz35_5:=blk_frozen Af.out 5
            have hfz35_6:=blk_frozen Af.out 6
            try go_wp2_with (first|((with_reducible refine gate_callee (f:=36) rfl ?_);refine goesL_ (some 38) rfl rfl Try.func36 (by kernel_rfl) rfl #[.slice (some ad268) Ae.length co22,.agg #[.int .i64 Ah,.int .i64 Ai,.int .i64 Ak,.int .i64 Al,.int .i64 Am,.int .i64 An,.int .i64 Ao]] rfl qAs16_5 ?_;(with_reducible refine (kinds_move_36.calls k3 _ _ Ae Ah Ai Ak Al Am An Ao true _ ?side1 ?side2 A19.out).mono ?_);(case side1=>refine (Kd.R_reads' (e:=44) (base:=w.heap.size) (ok:=fun k_=>k_ ≠ Ab) (n:=Ae.length) (c:=co22) ?_).2.2;exact (by (with_reducible repeat (first|apply Kd.R_alloc|apply Kd.R_drewN|apply Kd.R_drew));exact (Kd.R_mono (Kd.R_far (p:=⟨Ab,6,none⟩) (Kd.R_far (p:=⟨Ab,5,none⟩) (Kd.R_far (p:=⟨Ab,4,none⟩) (Kd.R_far (p:=⟨Ab,3,none⟩) (Kd.R_far (p:=⟨Ab,2,none⟩) (Kd.R_far (p:=⟨Ab,1,none⟩) (Kd.R_far (p:=⟨Ab,0,none⟩) (Kd.R_mono Aa.out (fun k_ hk=>(⟨hk,hk⟩ : _ ∧ k_ ≠ Ab))) (fun _ hk=>hk.2) (.int .i64 Ah)) (fun _ hk=>hk.2) (.int .i64 Ai)) (fun _ hk=>hk.2) (.int .i64 Ak)) (fun _ hk=>hk.2) (.int .i64 Al)) (fun _ hk=>hk.2) (.int .i64 Am)) (fun _ hk=>hk.2) (.int .i64 An)) (fun _ hk=>hk.2) (.int .i64 Ao)) (fun _ h_=>h_.1))));(case side2=>exact (Kd.R_reads' Aa.out).2.1);rintro e w36 ⟨rfl,hb⟩;refine ⟨_,rfl,?_⟩;have n0_:=Aside0.mk (Kd.R_below (by (with_reducible repeat (first|apply Kd.R_alloc|apply Kd.R_drewN|apply Kd.R_drew));exact (Kd.R_mono (Kd.R_far (p:=⟨Ab,6,none⟩) (Kd.R_far (p:=⟨Ab,5,none⟩) (Kd.R_far (p:=⟨Ab,4,none⟩) (Kd.R_far (p:=⟨Ab,3,none⟩) (Kd.R_far (p:=⟨Ab,2,none⟩) (Kd.R_far (p:=⟨Ab,1,none⟩) (Kd.R_far (p:=⟨Ab,0,none⟩) (Kd.R_mono Aa.out (fun k_ hk=>(⟨hk,hk⟩ : _ ∧ k_ ≠ Ab))) (fun _ hk=>hk.2) (.int .i64 Ah)) (fun _ hk=>hk.2) (.int .i64 Ai)) (fun _ hk=>hk.2) (.int .i64 Ak)) (fun _ hk=>hk.2) (.int .i64 Al)) (fun _ hk=>hk.2) (.int .i64 Am)) (fun _ hk=>hk.2) (.int .i64 An)) (fun _ hk=>hk.2) (.int .i64 Ao)) (fun _ h_=>h_.1))) hb);have n1_:=Aside0.mk (blk_below (g:=gb257) (o:=.cells #[.int .i64 a0_0,.int .i64 a0_1,.slice A0_2 l0_2.length c0_2,.int .i64 a0_3,.int .u32 a0_4] 25 (0,0)) (by (with_reducible repeat (first|refine blk_drewN ?_ _|refine blk_drew ?_|refine blk_alloc ?_ _));refine blk_far ?_ Ac.out _;(with_reducible repeat (first|refine blk_drewN ?_ _|refine blk_drew ?_|refine blk_alloc ?_ _));refine blk_far ?_ Ac.out _;(with_reducible repeat (first|refine blk_drewN ?_ _|refine blk_drew ?_|refine blk_alloc ?_ _));refine blk_far ?_ Ac.out _;(with_reducible repeat (first|refine blk_drewN ?_ _|refine blk_drew ?_|refine blk_alloc ?_ _));refine blk_far ?_ Ac.out _;(with_reducible repeat (first|refine blk_drewN ?_ _|refine blk_drew ?_|refine blk_alloc ?_ _));refine blk_far ?_ Ac.out _;(with_reducible repeat (first|refine blk_drewN ?_ _|refine blk_drew ?_|refine blk_alloc ?_ _));refine blk_far ?_ Ac.out _;(with_reducible repeat (first|refine blk_drewN ?_ _|refine blk_drew ?_|refine blk_alloc ?_ _));refine blk_far ?_ Ac.out _;(with_reducible repeat (first|refine blk_drewN ?_ _|refine blk_drew ?_|refine blk_alloc ?_ _));exact BK257.out) hb);have n2_:=Aside0.mk (blk_below (g:=Ab) (o:=.cells #[.int .i64 Ah,.int .i64 Ai,.int .i64 Ak,.int .i64 Al,.int .i64 Am,.int .i64 An,.int .i64 Ao] 44 (0,0)) (by (with_reducible repeat (first|refine blk_drewN ?_ _|refine blk_drew ?_|refine blk_alloc ?_ _));refine blk_put (cs:=#[.int .i64 Ah,.int .i64 Ai,.int .i64 Ak,.int .i64 Al,.int .i64 Am,.int .i64 An,.int .i64 0]) ?_ 6 _ rfl;(with_reducible repeat (first|refine blk_drewN ?_ _|refine blk_drew ?_|refine blk_alloc ?_ _));refine blk_put (cs:=#[.int .i64 Ah,.int .i64 Ai,.int .i64 Ak,.int .i64 Al,.int .i64 Am,.int .i64 0,.int .i64 0]) ?_ 5 _ rfl;(with_reducible repeat (first|refine blk_drewN ?_ _|refine blk_drew ?_|refine blk_alloc ?_ _));refine blk_put (cs:=#[.int .i64 Ah,.int .i64 Ai,.int .i64 Ak,.int .i64 Al,.int .i64 0,.int .i64 0,.int .i64 0]) ?_ 4 _ rfl;(with_reducible repeat (first|refine blk_drewN ?_ _|refine blk_drew ?_|refine blk_alloc ?_ _));refine blk_put (cs:=#[.int .i64 Ah,.int .i64 Ai,.int .i64 Ak,.int .i64 0,.int .i64 0,.int .i64 0,.int .i64 0]) ?_ 3 _ rfl;(with_reducible repeat (first|refine blk_drewN ?_ _|refine blk_drew ?_|refine blk_alloc ?_ _));refine blk_put (cs:=#[.int .i64 Ah,.int .i64 Ai,.int .i64 0,.int .i64 0,.int .i64 0,.int .i64 0,.int .i64 0]) ?_ 2 _ rfl;(with_reducible repeat (first|refine blk_drewN ?_ _|refine blk_drew ?_|refine blk_alloc ?_ _));refine blk_put (cs:=#[.int .i64 Ah,.int .i64 0,.int .i64 0,.int .i64 0,.int .i64 0,.int .i64 0,.int .i64 0]) ?_ 1 _ rfl;(with_reducible repeat (first|refine blk_drewN ?_ _|refine blk_drew ?_|refine blk_alloc ?_ _));refine blk_put (cs:=#[.int .i64 0,.int .i64 0,.int .i64 0,.int .i64 0,.int .i64 0,.int .i64 0,.int .i64 0]) ?_ 0 _ rfl;(with_reducible repeat (first|refine blk_drewN ?_ _|refine blk_drew ?_|refine blk_alloc ?_ _));exact Af.out) hb);have n3_:=Aside0.mk (below_step qBs16_4 hb);clear Aa;clear BK257;clear Af;clear HB;have Aa:=n0_;have BK257:=n1_;have Af:=n2_;have HB:=n3_;clear n0_ n1_ n2_ n3_;(try clear hb);(try clear hb2);(try clear hk);(try clear hi)))
            go_roundg k3
            case measure=>have:=HK1.out;have:=HJ7.out;have:=HK3.out;omega
            case rel=>exact ⟨(Ae),(wrap64 (Aj + 1)),(by first|rfl|(simp;done)|(simp [*];done)),H',⟨by have:=HK1.out;have:=HJ7.out;have:=HK3.out;omega⟩,⟨by (with_reducible repeat (first|apply Kd.R_alloc|apply Kd.R_drewN|apply Kd.R_drew));exact Kd.R_mono Aa.out (fun _ hk=>trivial)⟩,⟨by (with_reducible repeat (first|refine blk_drewN ?_ _|refine blk_drew ?_|refine blk_alloc ?_ _));exact BK257.out⟩,⟨by repeat (first|(with_reducible first|exact HB.out|apply below_alloc|apply pw_below_drewN|apply below_drew1|refine below_set ?_ GE257.out|refine below_set ?_ Ap.out)|exact HB.out)⟩⟩
           ·replace c20:=Bool.eq_false_iff.mpr c20
            subst c20
            have H1 : (if Ae.length < 2513169434916 then (kinds_all.l1 k3 a1 (Ae ++ [(⟨Ah,Ai,Ak,Al,Am,An,Ao⟩ : S44)]) Ad a0_1 (wrap64 (Aj + 1)) a0_0 a0_1 l0_2 a0_3 a0_4) else (none)) = some r:=by rw [if_neg (show ¬ (false = true) by decide)] at H;exact H
            clear H
            have H:=H1
            clear H1
            by_cases c37 : Ae.length < 2513169434916
            ·rw [if_pos c37] at H
             have LMc37:=Aside0.mk c37
             clear c37
             obtain ⟨y285,hy285⟩ : ∃ y_ : List (S44),y_ = (Ae ++ [(⟨Ah,Ai,Ak,Al,Am,An,Ao⟩ : S44)]):=⟨_,rfl⟩
             replace H : (kinds_all.l1 k3 a1 y285 Ad a0_1 (wrap64 (Aj + 1)) a0_0 a0_1 l0_2 a0_3 a0_4) = some r:=by first|(rw [hy285];with_reducible exact H)|(have H2_:=(Option.bind_some _ _).symm.trans H;rw [hy285];with_reducible exact H2_)|(have H2_:=(Option.bind_some _ _).symm.trans H;with_reducible exact H2_)|with_reducible exact H|(rw [hy285];exact H)|exact H
             have Ny285:=Aside0.mk hy285
             clear hy285
             have H':=Aside0.mk H
             clear H
             try go_wp2
             have n0_:=Aside0.mk (Kd.R_drew Aa.out)
             have n1_:=Aside0.mk (blk_drew BK257.out)
             have n2_:=Aside0.mk (below_drew1 HB.out)
             clear Aa
             clear BK257
             clear HB
             have Aa:=n0_
             have BK257:=n1_
             have HB:=n2_
             clear n0_ n1_ n2_
             obtain ⟨Ao39,co39,eo39⟩:=Kd.R_slice Aa.out
             (first|subst eo39|(injection eo39 with f1_ f2_ f3_;have f4_:=f1_.symm;have f5_:=f3_.symm;clear f1_ f2_ f3_;subst f4_;subst f5_))
             have p268 : 0 ≤ (Ad : Int):=of_decide_eq_true qAs16_6
             have q268 : Ad < (Ae.length : Int):=of_decide_eq_true qAs16_6
             obtain ⟨ad268,e268,hx268_0,hx268_1,hx268_2,hx268_3,hx268_4,hx268_5,hx268_6⟩:=at_T44 (Kd.R_reads' Aa.out).2.2 Ad p268 q268
             cases e268
             replace p268:=eq_true p268
             replace q268:=eq_true q268
             refine start_ (n:=10) (S:=fun w'=>w'.cell? ⟨gb257,0,none⟩ = some (.int .i64 a0_0) ∧ w'.cell? ⟨gb257,1,none⟩ = some (.int .i64 a0_1) ∧ w'.cell? ⟨gb257,2,none⟩ = some (.slice A0_2 l0_2.length c0_2) ∧ w'.cell? ⟨gb257,3,none⟩ = some (.int .i64 a0_3) ∧ w'.cell? ⟨gb257,4,none⟩ = some (.int .u32 a0_4) ∧ w'.cell? (ad268.add ((Ad).toNat * 7)) = some (.int .i64 ((rd_T44 Ae Ad).f0)) ∧ w'.cell? ⟨(ad268.add ((Ad).toNat * 7)).block,(ad268.add ((Ad).toNat * 7)).off + 1,none⟩ = some (.int .i64 ((rd_T44 Ae Ad).f1)) ∧ w'.cell? ⟨(ad268.add ((Ad).toNat * 7)).block,(ad268.add ((Ad).toNat * 7)).off + 2,none⟩ = some (.int .i64 ((rd_T44 Ae Ad).f2)) ∧ w'.cell? ⟨(ad268.add ((Ad).toNat * 7)).block,(ad268.add ((Ad).toNat * 7)).off + 3,none⟩ = some (.int .i64 ((rd_T44 Ae Ad).f3)) ∧ w'.cell? ⟨(ad268.add ((Ad).toNat * 7)).block,(ad268.add ((Ad).toNat * 7)).off + 4,none⟩ = some (.int .i64 ((rd_T44 Ae Ad).f4)) ∧ w'.cell? ⟨(ad268.add ((Ad).toNat * 7)).block,(ad268.add ((Ad).toNat * 7)).off + 5,none⟩ = some (.int .i64 ((rd_T44 Ae Ad).f5)) ∧ w'.cell? ⟨(ad268.add ((Ad).toNat * 7)).block,(ad268.add ((Ad).toNat * 7)).off + 6,none⟩ = some (.int .i64 ((rd_T44 Ae Ad).f6))) (ds:=[]) #[false,false,false,false,false,false,false,false,false,false] (by kernel_rfl) rfl rfl ⟨(blk_cell BK257.out 0).trans rfl,(blk_cell BK257.out 1).trans rfl,(blk_cell BK257.out 2).trans rfl,(blk_cell BK257.out 3).trans rfl,(blk_cell BK257.out 4).trans rfl,hx268_0,hx268_1,hx268_2,hx268_3,hx268_4,hx268_5,hx268_6⟩ (fun hHeld=>?_);refine with_tabW kinds_all.tab8 kinds_all.bits8 (fun HT_ HW_=>?_)
             generalize wr.drew = w38 at Aa BK257 HB hx268_0 hx268_1 hx268_2 hx268_3 hx268_4 hx268_5 hx268_6 hHeld ⊢
             refine pure_ (i:=0) (N:=some 28) (v:=?_) (a':=?_) #[true,false,false,false,false,false,false,false,false,false] rfl rfl (any_of HT_.out (by kernel_rfl)) (fun _ _ _ h=>h) (Or.inl ⟨by rfl,?_⟩) ?_ ?_
             rotate_left
             ·intro w'
              go_simp
              with_reducible rfl
             rotate_left
             ·simp only [Act.put,List.setIfInBounds_toArray,List.set_cons_zero,List.set_cons_succ,i64_w,i32_w]
              rfl
             refine pure_ (i:=1) (N:=some 29) (v:=?_) (a':=?_) #[true,true,false,false,false,false,false,false,false,false] rfl rfl (any_of HT_.out (by kernel_rfl)) (fun _ _ _ h=>h) (Or.inl ⟨by rfl,?_⟩) ?_ ?_
             rotate_left
             ·intro w'
              go_simp
              with_reducible rfl
             rotate_left
             ·simp only [Act.put,List.setIfInBounds_toArray,List.set_cons_zero,List.set_cons_succ,i64_w,i32_w]
              rfl
             refine pure_ (i:=2) (N:=some 30) (v:=?_) (a':=?_) #[true,true,true,false,false,false,false,false,false,false] rfl rfl (any_of HT_.out (by kernel_rfl)) (fun _ _ _ h=>h) (Or.inl ⟨by rfl,?_⟩) ?_ ?_
             rotate_left
             ·intro w'
              go_simp
              with_reducible rfl
             rotate_left
             ·simp only [Act.put,List.setIfInBounds_toArray,List.set_cons_zero,List.set_cons_succ,i64_w,i32_w]
              rfl
             refine pure_ (i:=5) (N:=some 33) (v:=?_) (a':=?_) #[true,true,true,false,false,true,false,false,false,false] rfl rfl (any_of HT_.out (by kernel_rfl)) (fun _ _ _ h=>h) (Or.inl ⟨by rfl,?_⟩) ?_ ?_
             rotate_left
             ·intro w'
              go_simp
              with_reducible rfl
             rotate_left
             ·simp only [Act.put,List.setIfInBounds_toArray,List.set_cons_zero,List.set_cons_succ,i64_w,i32_w]
              rfl
             refine take_ (i:=3) (N:=some 31) (v:=?_) (a':=?_) #[true,true,true,true,false,true,false,false,false,false] rfl rfl (take_ofW HT_.out HW_.out (by kernel_rfl)) (fun _ _ _ h=>h) (Or.inl ⟨by rfl,?_⟩) hHeld ?_ ?_
             rotate_left
             ·rintro w' ⟨s0,s1,s2,s3,s4,s5,s6,s7,s8,s9,s10,s11⟩
              go_simp
              with_reducible rfl
             rotate_left
             ·simp only [Act.put,List.setIfInBounds_toArray,List.set_cons_zero,List.set_cons_succ,i64_w,i32_w]
              rfl
             refine take_ (i:=4) (N:=some 32) (v:=?_) (a':=?_) #[true,true,true,true,true,true,false,false,false,false] rfl rfl (take_ofW HT_.out HW_.out (by kernel_rfl)) (fun _ _ _ h=>h) (Or.inl ⟨by rfl,?_⟩) hHeld ?_ ?_
             rotate_left
             ·rintro w' ⟨s0,s1,s2,s3,s4,s5,s6,s7,s8,s9,s10,s11⟩
              go_simp
              with_reducible rfl
             rotate_left
             ·simp only [Act.put,List.setIfInBounds_toArray,List.set_cons_zero,List.set_cons_succ,i64_w,i32_w]
              rfl
             refine join_ (σ:=Nat) 1 #[true,true,true,true,true,true,true,true,true,false] (fun s_=>[(34,.agg #[.int .i64 Ar,.int .i64 As,.int .i64 At,.int .i64 Au,.int .i64 Av,.int .i64 Aw,.int .i64 Ax]),(35,.agg #[.int .i64 Ah,.int .i64 Ai,.int .i64 Ak,.int .i64 Al,.int .i64 Am,.int .i64 An,.int .i64 Ao]),(8,.pointer (some ⟨s_,0,none⟩))]) (fun s_ w'=>(w'.cell? ⟨gb257,0,none⟩ = some (.int .i64 a0_0) ∧ w'.cell? ⟨gb257,1,none⟩ = some (.int .i64 a0_1) ∧ w'.cell? ⟨gb257,2,none⟩ = some (.slice A0_2 l0_2.length c0_2) ∧ w'.cell? ⟨gb257,3,none⟩ = some (.int .i64 a0_3) ∧ w'.cell? ⟨gb257,4,none⟩ = some (.int .u32 a0_4) ∧ w'.cell? (ad268.add ((Ad).toNat * 7)) = some (.int .i64 ((rd_T44 Ae Ad).f0)) ∧ w'.cell? ⟨(ad268.add ((Ad).toNat * 7)).block,(ad268.add ((Ad).toNat * 7)).off + 1,none⟩ = some (.int .i64 ((rd_T44 Ae Ad).f1)) ∧ w'.cell? ⟨(ad268.add ((Ad).toNat * 7)).block,(ad268.add ((Ad).toNat * 7)).off + 2,none⟩ = some (.int .i64 ((rd_T44 Ae Ad).f2)) ∧ w'.cell? ⟨(ad268.add ((Ad).toNat * 7)).block,(ad268.add ((Ad).toNat * 7)).off + 3,none⟩ = some (.int .i64 ((rd_T44 Ae Ad).f3)) ∧ w'.cell? ⟨(ad268.add ((Ad).toNat * 7)).block,(ad268.add ((Ad).toNat * 7)).off + 4,none⟩ = some (.int .i64 ((rd_T44 Ae Ad).f4)) ∧ w'.cell? ⟨(ad268.add ((Ad).toNat * 7)).block,(ad268.add ((Ad).toNat * 7)).off + 5,none⟩ = some (.int .i64 ((rd_T44 Ae Ad).f5)) ∧ w'.cell? ⟨(ad268.add ((Ad).toNat * 7)).block,(ad268.add ((Ad).toNat * 7)).off + 6,none⟩ = some (.int .i64 ((rd_T44 Ae Ad).f6))) ∧ (Kd.R k44 44 w' w.heap.size (fun k_=>k_ ≠ s_) (.slice (some ad268) Ae.length co39) Ae) ∧ (w'.heap[gb257]? = some (.cells #[.int .i64 a0_0,.int .i64 a0_1,.slice A0_2 l0_2.length c0_2,.int .i64 a0_3,.int .u32 a0_4] 25 (0,0))) ∧ (w'.heap[s_]? = some (.cells #[.int .i64 0,.int .i64 0,.int .i64 0,.int .i64 0,.int .i64 0,.int .i64 0,.int .i64 0] 44 (0,0))) ∧ (w.heap.size ≤ s_) ∧ (w.heap.size ≤ s_) ∧ (gb257 ≠ s_) ∧ (s_ ≠ gb257) ∧ (Below w.heap.size w w')) ?_ ?_
             rotate_left
             ·intro hCont
              refine two_ (i:=6) (j:=8) (Ni:=some 34) (Nj:=some 8) #[true,true,true,true,true,true,true,false,false,false] #[true,true,true,true,true,true,false,false,true,false] rfl rfl rfl rfl (two_of HT_.out (by kernel_rfl)) (by decide) (by decide) (fun K hK=>?_) (fun K hK=>?_)
              ·skip
               refine goes_ Try.func18 (by kernel_rfl) rfl #[.agg #[.int .i64 a0_0,.int .i64 a0_1,.slice A0_2 l0_2.length c0_2,.int .i64 a0_3,.int .u32 a0_4],.int .i64 Aj] (by rfl) rfl rfl qAs16_5 ?_
               with_reducible refine (kinds_by.calls a0_0 a0_1 _ _ l0_2 a0_3 a0_4 Aj Ar As At Au Av Aw Ax _ ?side1 ?side2 A17.out).mono ?_
               (case side1=>repeat (first|exact (Kd.C_below HR0_2.out HB.out)|(with_reducible refine Kd.C_alloc ?_ _)|(with_reducible refine Kd.C_drewN ?_ _)|(with_reducible refine Kd.C_drew ?_)))
               (case side2=>exact HC0_2.out)
               rintro e w40 ⟨rfl,hb⟩
               have HS5_:=(hb.cell (World.block_lt_of_cell? _ _ (hHeld.2.2.2.2.2.1))).trans (hHeld.2.2.2.2.2.1)
               have HS6_:=(hb.cell (World.block_lt_of_cell? _ _ (hHeld.2.2.2.2.2.2.1))).trans (hHeld.2.2.2.2.2.2.1)
               have HS7_:=(hb.cell (World.block_lt_of_cell? _ _ (hHeld.2.2.2.2.2.2.2.1))).trans (hHeld.2.2.2.2.2.2.2.1)
               have HS8_:=(hb.cell (World.block_lt_of_cell? _ _ (hHeld.2.2.2.2.2.2.2.2.1))).trans (hHeld.2.2.2.2.2.2.2.2.1)
               have HS9_:=(hb.cell (World.block_lt_of_cell? _ _ (hHeld.2.2.2.2.2.2.2.2.2.1))).trans (hHeld.2.2.2.2.2.2.2.2.2.1)
               have HS10_:=(hb.cell (World.block_lt_of_cell? _ _ (hHeld.2.2.2.2.2.2.2.2.2.2.1))).trans (hHeld.2.2.2.2.2.2.2.2.2.2.1)
               have HS11_:=(hb.cell (World.block_lt_of_cell? _ _ (hHeld.2.2.2.2.2.2.2.2.2.2.2))).trans (hHeld.2.2.2.2.2.2.2.2.2.2.2)
               refine ⟨_,rfl,?_⟩
               have n0_:=Aside0.mk (Kd.R_below (qRs16_ Aa.out) hb)
               have n1_:=Aside0.mk (blk_below (g:=gb257) (o:=.cells #[.int .i64 a0_0,.int .i64 a0_1,.slice A0_2 l0_2.length c0_2,.int .i64 a0_3,.int .u32 a0_4] 25 (0,0)) (qDs16_ BK257.out) hb)
               have n2_:=Aside0.mk (below_step qBs16_3 hb)
               clear Aa
               clear BK257
               clear HB
               have Aa:=n0_
               have BK257:=n1_
               have HB:=n2_
               clear n0_ n1_ n2_
               (try clear hb)
               (try clear hb2)
               (try clear hk)
               (try clear hi)
               refine hK.out _ _ ⟨(blk_cell BK257.out 0).trans rfl,(blk_cell BK257.out 1).trans rfl,(blk_cell BK257.out 2).trans rfl,(blk_cell BK257.out 3).trans rfl,(blk_cell BK257.out 4).trans rfl,HS5_,HS6_,HS7_,HS8_,HS9_,HS10_,HS11_⟩ (fun hHeld=>?_)
               clear hK K
               refine norm_ (a':=?_) ?_ ?_
               rotate_left
               ·show Act.put _ (some 34) _ = _
                simp only [Act.put,List.setIfInBounds_toArray,List.set_cons_zero,List.set_cons_succ,i64_w,i32_w]
                rfl
               refine two_ (i:=7) (j:=8) (Ni:=some 35) (Nj:=some 8) #[true,true,true,true,true,true,true,true,false,false] #[true,true,true,true,true,true,true,false,true,false] rfl rfl rfl rfl (two_of HT_.out (by kernel_rfl)) (by decide) (by decide) (fun K hK=>?_) (fun K hK=>?_)
               ·skip
                refine goes_ Try.func17 (by kernel_rfl) rfl #[.agg #[.int .i64 ((rd_T44 Ae Ad).f0),.int .i64 ((rd_T44 Ae Ad).f1),.int .i64 ((rd_T44 Ae Ad).f2),.int .i64 ((rd_T44 Ae Ad).f3),.int .i64 ((rd_T44 Ae Ad).f4),.int .i64 ((rd_T44 Ae Ad).f5),.int .i64 ((rd_T44 Ae Ad).f6)],.agg #[.int .i64 Ar,.int .i64 As,.int .i64 At,.int .i64 Au,.int .i64 Av,.int .i64 Aw,.int .i64 Ax]] (by rfl) rfl rfl qAs16_5 ?_
                with_reducible refine (kinds_move_then.calls ((rd_T44 Ae Ad).f0) ((rd_T44 Ae Ad).f1) ((rd_T44 Ae Ad).f2) ((rd_T44 Ae Ad).f3) ((rd_T44 Ae Ad).f4) ((rd_T44 Ae Ad).f5) ((rd_T44 Ae Ad).f6) Ar As At Au Av Aw Ax Ah Ai Ak Al Am An Ao _ A18.out).mono ?_
                rintro e w41 ⟨rfl,hb⟩
                have HS5_:=(hb.cell (World.block_lt_of_cell? _ _ (hHeld.2.2.2.2.2.1))).trans (hHeld.2.2.2.2.2.1)
                have HS6_:=(hb.cell (World.block_lt_of_cell? _ _ (hHeld.2.2.2.2.2.2.1))).trans (hHeld.2.2.2.2.2.2.1)
                have HS7_:=(hb.cell (World.block_lt_of_cell? _ _ (hHeld.2.2.2.2.2.2.2.1))).trans (hHeld.2.2.2.2.2.2.2.1)
                have HS8_:=(hb.cell (World.block_lt_of_cell? _ _ (hHeld.2.2.2.2.2.2.2.2.1))).trans (hHeld.2.2.2.2.2.2.2.2.1)
                have HS9_:=(hb.cell (World.block_lt_of_cell? _ _ (hHeld.2.2.2.2.2.2.2.2.2.1))).trans (hHeld.2.2.2.2.2.2.2.2.2.1)
                have HS10_:=(hb.cell (World.block_lt_of_cell? _ _ (hHeld.2.2.2.2.2.2.2.2.2.2.1))).trans (hHeld.2.2.2.2.2.2.2.2.2.2.1)
                have HS11_:=(hb.cell (World.block_lt_of_cell? _ _ (hHeld.2.2.2.2.2.2.2.2.2.2.2))).trans (hHeld.2.2.2.2.2.2.2.2.2.2.2)
                refine ⟨_,rfl,?_⟩
                have n0_:=Aside0.mk (Kd.R_below (qRs16_ Aa.out) hb)
                have n1_:=Aside0.mk (blk_below (g:=gb257) (o:=.cells #[.int .i64 a0_0,.int .i64 a0_1,.slice A0_2 l0_2.length c0_2,.int .i64 a0_3,.int .u32 a0_4] 25 (0,0)) (qDs16_ BK257.out) hb)
                have n2_:=Aside0.mk (below_step qBs16_3 hb)
                clear Aa
                clear BK257
                clear HB
                have Aa:=n0_
                have BK257:=n1_
                have HB:=n2_
                clear n0_ n1_ n2_
                (try clear hb)
                (try clear hb2)
                (try clear hk)
                (try clear hi)
                refine hK.out _ _ ⟨(blk_cell BK257.out 0).trans rfl,(blk_cell BK257.out 1).trans rfl,(blk_cell BK257.out 2).trans rfl,(blk_cell BK257.out 3).trans rfl,(blk_cell BK257.out 4).trans rfl,HS5_,HS6_,HS7_,HS8_,HS9_,HS10_,HS11_⟩ (fun hHeld=>?_)
                clear hK K
                refine norm_ (a':=?_) ?_ ?_
                rotate_left
                ·show Act.put _ (some 35) _ = _
                 simp only [Act.put,List.setIfInBounds_toArray,List.set_cons_zero,List.set_cons_succ,i64_w,i32_w]
                 rfl
                refine one_ (i:=8) (N:=some 8) #[true,true,true,true,true,true,true,true,true,false] rfl rfl (one_of HT_.out (by kernel_rfl)) (by decide) (fun K hK=>?_)
                refine box_step ?hg (N:=8) ?hd (cs:=#[.int .i64 0,.int .i64 0,.int .i64 0,.int .i64 0,.int .i64 0,.int .i64 0,.int .i64 0]) (t:=44) ?hr ?_;(case hd=>rfl);(case hg=>rfl);(case hr=>first|(go_simp;done)|(go_simp;rfl))
                intro Ab hg w42 hbox hb
                have HS5_:=(hb.cell (World.block_lt_of_cell? _ _ (hHeld.2.2.2.2.2.1))).trans (hHeld.2.2.2.2.2.1)
                have HS6_:=(hb.cell (World.block_lt_of_cell? _ _ (hHeld.2.2.2.2.2.2.1))).trans (hHeld.2.2.2.2.2.2.1)
                have HS7_:=(hb.cell (World.block_lt_of_cell? _ _ (hHeld.2.2.2.2.2.2.2.1))).trans (hHeld.2.2.2.2.2.2.2.1)
                have HS8_:=(hb.cell (World.block_lt_of_cell? _ _ (hHeld.2.2.2.2.2.2.2.2.1))).trans (hHeld.2.2.2.2.2.2.2.2.1)
                have HS9_:=(hb.cell (World.block_lt_of_cell? _ _ (hHeld.2.2.2.2.2.2.2.2.2.1))).trans (hHeld.2.2.2.2.2.2.2.2.2.1)
                have HS10_:=(hb.cell (World.block_lt_of_cell? _ _ (hHeld.2.2.2.2.2.2.2.2.2.2.1))).trans (hHeld.2.2.2.2.2.2.2.2.2.2.1)
                have HS11_:=(hb.cell (World.block_lt_of_cell? _ _ (hHeld.2.2.2.2.2.2.2.2.2.2.2))).trans (hHeld.2.2.2.2.2.2.2.2.2.2.2)
                have n0_:=Aside0.mk (Kd.R_below (Kd.R_elderB (qRs16_ Aa.out) Ab (Nat.le_of_eq hg.symm)) hb)
                have n1_:=Aside0.mk (blk_below (g:=gb257) (o:=.cells #[.int .i64 a0_0,.int .i64 a0_1,.slice A0_2 l0_2.length c0_2,.int .i64 a0_3,.int .u32 a0_4] 25 (0,0)) (qDs16_ BK257.out) hb)
                have n2_:=Aside0.mk (below_step qBs16_3 hb)
                have n3_:=Aside0.mk (hbox)
                have n4_:=Aside0.mk ((by rw [hg];exact (below_size qBs16_3) : w.heap.size ≤ Ab))
                have n5_:=Aside0.mk ((by rw [hg];exact (below_size qBs16_3) : w.heap.size ≤ Ab))
                have n6_:=Aside0.mk ((by rw [hg];exact Nat.ne_of_lt (blk_lt (g:=gb257) (o:=.cells #[.int .i64 a0_0,.int .i64 a0_1,.slice A0_2 l0_2.length c0_2,.int .i64 a0_3,.int .u32 a0_4] 25 (0,0)) (qDs16_ BK257.out)) : gb257 ≠ Ab))
                have n7_:=Aside0.mk ((by rw [hg];exact Nat.ne_of_gt (blk_lt (g:=gb257) (o:=.cells #[.int .i64 a0_0,.int .i64 a0_1,.slice A0_2 l0_2.length c0_2,.int .i64 a0_3,.int .u32 a0_4] 25 (0,0)) (qDs16_ BK257.out)) : Ab ≠ gb257))
                clear Aa
                clear BK257
                clear HB
                have Aa:=n0_
                have BK257:=n1_
                have HB:=n2_
                have Af:=n3_
                have Aq:=n4_
                have Ap:=n5_
                have Ac:=n6_
                have Ag:=n7_
                clear n0_ n1_ n2_ n3_ n4_ n5_ n6_ n7_
                clear hb hbox hg
                refine hK.out _ _ ⟨(blk_cell BK257.out 0).trans rfl,(blk_cell BK257.out 1).trans rfl,(blk_cell BK257.out 2).trans rfl,(blk_cell BK257.out 3).trans rfl,(blk_cell BK257.out 4).trans rfl,HS5_,HS6_,HS7_,HS8_,HS9_,HS10_,HS11_⟩ (fun hHeld=>?_)
                clear hK K
                refine norm_ (a':=?_) ?_ ?_
                rotate_left
                ·show Act.put _ (some 8) _ = _
                 simp only [Act.put,List.setIfInBounds_toArray,List.set_cons_zero,List.set_cons_succ,i64_w,i32_w]
                 rfl
                exact norm_ (by simp only [putAll,Act.put,List.setIfInBounds_toArray,List.set_cons_zero,List.set_cons_succ]) (hCont (Ab) _ ⟨hHeld,(by (with_reducible repeat (first|apply Kd.R_alloc|apply Kd.R_drewN|apply Kd.R_drew));exact Kd.R_mono Aa.out (fun _ hk=>hk.2)),(qDs16_ BK257.out),(qDs16_ Af.out),Aq.out,Ap.out,Ac.out,Ag.out,qBs16_4⟩)
               ·skip
                refine box_step ?hg (N:=8) ?hd (cs:=#[.int .i64 0,.int .i64 0,.int .i64 0,.int .i64 0,.int .i64 0,.int .i64 0,.int .i64 0]) (t:=44) ?hr ?_;(case hd=>rfl);(case hg=>rfl);(case hr=>first|(go_simp;done)|(go_simp;rfl))
                intro Ab hg w41 hbox hb
                have HS5_:=(hb.cell (World.block_lt_of_cell? _ _ (hHeld.2.2.2.2.2.1))).trans (hHeld.2.2.2.2.2.1)
                have HS6_:=(hb.cell (World.block_lt_of_cell? _ _ (hHeld.2.2.2.2.2.2.1))).trans (hHeld.2.2.2.2.2.2.1)
                have HS7_:=(hb.cell (World.block_lt_of_cell? _ _ (hHeld.2.2.2.2.2.2.2.1))).trans (hHeld.2.2.2.2.2.2.2.1)
                have HS8_:=(hb.cell (World.block_lt_of_cell? _ _ (hHeld.2.2.2.2.2.2.2.2.1))).trans (hHeld.2.2.2.2.2.2.2.2.1)
                have HS9_:=(hb.cell (World.block_lt_of_cell? _ _ (hHeld.2.2.2.2.2.2.2.2.2.1))).trans (hHeld.2.2.2.2.2.2.2.2.2.1)
                have HS10_:=(hb.cell (World.block_lt_of_cell? _ _ (hHeld.2.2.2.2.2.2.2.2.2.2.1))).trans (hHeld.2.2.2.2.2.2.2.2.2.2.1)
                have HS11_:=(hb.cell (World.block_lt_of_cell? _ _ (hHeld.2.2.2.2.2.2.2.2.2.2.2))).trans (hHeld.2.2.2.2.2.2.2.2.2.2.2)
                have n0_:=Aside0.mk (Kd.R_below (Kd.R_elderB (qRs16_ Aa.out) Ab (Nat.le_of_eq hg.symm)) hb)
                have n1_:=Aside0.mk (blk_below (g:=gb257) (o:=.cells #[.int .i64 a0_0,.int .i64 a0_1,.slice A0_2 l0_2.length c0_2,.int .i64 a0_3,.int .u32 a0_4] 25 (0,0)) (qDs16_ BK257.out) hb)
                have n2_:=Aside0.mk (below_step qBs16_3 hb)
                have n3_:=Aside0.mk (hbox)
                have n4_:=Aside0.mk ((by rw [hg];exact (below_size qBs16_3) : w.heap.size ≤ Ab))
                have n5_:=Aside0.mk ((by rw [hg];exact (below_size qBs16_3) : w.heap.size ≤ Ab))
                have n6_:=Aside0.mk ((by rw [hg];exact Nat.ne_of_lt (blk_lt (g:=gb257) (o:=.cells #[.int .i64 a0_0,.int .i64 a0_1,.slice A0_2 l0_2.length c0_2,.int .i64 a0_3,.int .u32 a0_4] 25 (0,0)) (qDs16_ BK257.out)) : gb257 ≠ Ab))
                have n7_:=Aside0.mk ((by rw [hg];exact Nat.ne_of_gt (blk_lt (g:=gb257) (o:=.cells #[.int .i64 a0_0,.int .i64 a0_1,.slice A0_2 l0_2.length c0_2,.int .i64 a0_3,.int .u32 a0_4] 25 (0,0)) (qDs16_ BK257.out)) : Ab ≠ gb257))
                clear Aa
                clear BK257
                clear HB
                have Aa:=n0_
                have BK257:=n1_
                have HB:=n2_
                have Af:=n3_
                have Aq:=n4_
                have Ap:=n5_
                have Ac:=n6_
                have Ag:=n7_
                clear n0_ n1_ n2_ n3_ n4_ n5_ n6_ n7_
                clear hb hbox hg
                refine hK.out _ _ ⟨(blk_cell BK257.out 0).trans rfl,(blk_cell BK257.out 1).trans rfl,(blk_cell BK257.out 2).trans rfl,(blk_cell BK257.out 3).trans rfl,(blk_cell BK257.out 4).trans rfl,HS5_,HS6_,HS7_,HS8_,HS9_,HS10_,HS11_⟩ (fun hHeld=>?_)
                clear hK K
                refine norm_ (a':=?_) ?_ ?_
                rotate_left
                ·show Act.put _ (some 8) _ = _
                 simp only [Act.put,List.setIfInBounds_toArray,List.set_cons_zero,List.set_cons_succ,i64_w,i32_w]
                 rfl
                refine one_ (i:=7) (N:=some 35) #[true,true,true,true,true,true,true,true,true,false] rfl rfl (one_of HT_.out (by kernel_rfl)) (by decide) (fun K hK=>?_)
                refine goes_ Try.func17 (by kernel_rfl) rfl #[.agg #[.int .i64 ((rd_T44 Ae Ad).f0),.int .i64 ((rd_T44 Ae Ad).f1),.int .i64 ((rd_T44 Ae Ad).f2),.int .i64 ((rd_T44 Ae Ad).f3),.int .i64 ((rd_T44 Ae Ad).f4),.int .i64 ((rd_T44 Ae Ad).f5),.int .i64 ((rd_T44 Ae Ad).f6)],.agg #[.int .i64 Ar,.int .i64 As,.int .i64 At,.int .i64 Au,.int .i64 Av,.int .i64 Aw,.int .i64 Ax]] (by rfl) rfl rfl qAs16_5 ?_
                with_reducible refine (kinds_move_then.calls ((rd_T44 Ae Ad).f0) ((rd_T44 Ae Ad).f1) ((rd_T44 Ae Ad).f2) ((rd_T44 Ae Ad).f3) ((rd_T44 Ae Ad).f4) ((rd_T44 Ae Ad).f5) ((rd_T44 Ae Ad).f6) Ar As At Au Av Aw Ax Ah Ai Ak Al Am An Ao _ A18.out).mono ?_
                rintro e w42 ⟨rfl,hb⟩
                have HS5_:=(hb.cell (World.block_lt_of_cell? _ _ (hHeld.2.2.2.2.2.1))).trans (hHeld.2.2.2.2.2.1)
                have HS6_:=(hb.cell (World.block_lt_of_cell? _ _ (hHeld.2.2.2.2.2.2.1))).trans (hHeld.2.2.2.2.2.2.1)
                have HS7_:=(hb.cell (World.block_lt_of_cell? _ _ (hHeld.2.2.2.2.2.2.2.1))).trans (hHeld.2.2.2.2.2.2.2.1)
                have HS8_:=(hb.cell (World.block_lt_of_cell? _ _ (hHeld.2.2.2.2.2.2.2.2.1))).trans (hHeld.2.2.2.2.2.2.2.2.1)
                have HS9_:=(hb.cell (World.block_lt_of_cell? _ _ (hHeld.2.2.2.2.2.2.2.2.2.1))).trans (hHeld.2.2.2.2.2.2.2.2.2.1)
                have HS10_:=(hb.cell (World.block_lt_of_cell? _ _ (hHeld.2.2.2.2.2.2.2.2.2.2.1))).trans (hHeld.2.2.2.2.2.2.2.2.2.2.1)
                have HS11_:=(hb.cell (World.block_lt_of_cell? _ _ (hHeld.2.2.2.2.2.2.2.2.2.2.2))).trans (hHeld.2.2.2.2.2.2.2.2.2.2.2)
                refine ⟨_,rfl,?_⟩
                have n0_:=Aside0.mk (Kd.R_below (qRs16_ Aa.out) hb)
                have n1_:=Aside0.mk (blk_below (g:=gb257) (o:=.cells #[.int .i64 a0_0,.int .i64 a0_1,.slice A0_2 l0_2.length c0_2,.int .i64 a0_3,.int .u32 a0_4] 25 (0,0)) (qDs16_ BK257.out) hb)
                have n2_:=Aside0.mk (blk_below (g:=Ab) (o:=.cells #[.int .i64 0,.int .i64 0,.int .i64 0,.int .i64 0,.int .i64 0,.int .i64 0,.int .i64 0] 44 (0,0)) (qDs16_ Af.out) hb)
                have n3_:=Aside0.mk (below_step qBs16_4 hb)
                clear Aa
                clear BK257
                clear Af
                clear HB
                have Aa:=n0_
                have BK257:=n1_
                have Af:=n2_
                have HB:=n3_
                clear n0_ n1_ n2_ n3_
                (try clear hb)
                (try clear hb2)
                (try clear hk)
                (try clear hi)
                refine hK.out _ _ ⟨(blk_cell BK257.out 0).trans rfl,(blk_cell BK257.out 1).trans rfl,(blk_cell BK257.out 2).trans rfl,(blk_cell BK257.out 3).trans rfl,(blk_cell BK257.out 4).trans rfl,HS5_,HS6_,HS7_,HS8_,HS9_,HS10_,HS11_⟩ (fun hHeld=>?_)
                clear hK K
                refine norm_ (a':=?_) ?_ ?_
                rotate_left
                ·show Act.put _ (some 35) _ = _
                 simp only [Act.put,List.setIfInBounds_toArray,List.set_cons_zero,List.set_cons_succ,i64_w,i32_w]
                 rfl
                exact norm_ (by simp only [putAll,Act.put,List.setIfInBounds_toArray,List.set_cons_zero,List.set_cons_succ]) (hCont (Ab) _ ⟨hHeld,(by (with_reducible repeat (first|apply Kd.R_alloc|apply Kd.R_drewN|apply Kd.R_drew));exact Kd.R_mono Aa.out (fun _ hk=>hk.2)),(qDs16_ BK257.out),(qDs16_ Af.out),Aq.out,Ap.out,Ac.out,Ag.out,qBs16_4⟩)
              ·skip
               refine box_step ?hg (N:=8) ?hd (cs:=#[.int .i64 0,.int .i64 0,.int .i64 0,.int .i64 0,.int .i64 0,.int .i64 0,.int .i64 0]) (t:=44) ?hr ?_;(case hd=>rfl);(case hg=>rfl);(case hr=>first|(go_simp;done)|(go_simp;rfl))
               intro Ab hg w40 hbox hb
               have HS5_:=(hb.cell (World.block_lt_of_cell? _ _ (hHeld.2.2.2.2.2.1))).trans (hHeld.2.2.2.2.2.1)
               have HS6_:=(hb.cell (World.block_lt_of_cell? _ _ (hHeld.2.2.2.2.2.2.1))).trans (hHeld.2.2.2.2.2.2.1)
               have HS7_:=(hb.cell (World.block_lt_of_cell? _ _ (hHeld.2.2.2.2.2.2.2.1))).trans (hHeld.2.2.2.2.2.2.2.1)
               have HS8_:=(hb.cell (World.block_lt_of_cell? _ _ (hHeld.2.2.2.2.2.2.2.2.1))).trans (hHeld.2.2.2.2.2.2.2.2.1)
               have HS9_:=(hb.cell (World.block_lt_of_cell? _ _ (hHeld.2.2.2.2.2.2.2.2.2.1))).trans (hHeld.2.2.2.2.2.2.2.2.2.1)
               have HS10_:=(hb.cell (World.block_lt_of_cell? _ _ (hHeld.2.2.2.2.2.2.2.2.2.2.1))).trans (hHeld.2.2.2.2.2.2.2.2.2.2.1)
               have HS11_:=(hb.cell (World.block_lt_of_cell? _ _ (hHeld.2.2.2.2.2.2.2.2.2.2.2))).trans (hHeld.2.2.2.2.2.2.2.2.2.2.2)
               have n0_:=Aside0.mk (Kd.R_below (Kd.R_elderB (qRs16_ Aa.out) Ab (Nat.le_of_eq hg.symm)) hb)
               have n1_:=Aside0.mk (blk_below (g:=gb257) (o:=.cells #[.int .i64 a0_0,.int .i64 a0_1,.slice A0_2 l0_2.length c0_2,.int .i64 a0_3,.int .u32 a0_4] 25 (0,0)) (qDs16_ BK257.out) hb)
               have n2_:=Aside0.mk (below_step qBs16_3 hb)
               have n3_:=Aside0.mk (hbox)
               have n4_:=Aside0.mk ((by rw [hg];exact (below_size qBs16_3) : w.heap.size ≤ Ab))
               have n5_:=Aside0.mk ((by rw [hg];exact (below_size qBs16_3) : w.heap.size ≤ Ab))
               have n6_:=Aside0.mk ((by rw [hg];exact Nat.ne_of_lt (blk_lt (g:=gb257) (o:=.cells #[.int .i64 a0_0,.int .i64 a0_1,.slice A0_2 l0_2.length c0_2,.int .i64 a0_3,.int .u32 a0_4] 25 (0,0)) (qDs16_ BK257.out)) : gb257 ≠ Ab))
               have n7_:=Aside0.mk ((by rw [hg];exact Nat.ne_of_gt (blk_lt (g:=gb257) (o:=.cells #[.int .i64 a0_0,.int .i64 a0_1,.slice A0_2 l0_2.length c0_2,.int .i64 a0_3,.int .u32 a0_4] 25 (0,0)) (qDs16_ BK257.out)) : Ab ≠ gb257))
               clear Aa
               clear BK257
               clear HB
               have Aa:=n0_
               have BK257:=n1_
               have HB:=n2_
               have Af:=n3_
               have Aq:=n4_
               have Ap:=n5_
               have Ac:=n6_
               have Ag:=n7_
               clear n0_ n1_ n2_ n3_ n4_ n5_ n6_ n7_
               clear hb hbox hg
               refine hK.out _ _ ⟨(blk_cell BK257.out 0).trans rfl,(blk_cell BK257.out 1).trans rfl,(blk_cell BK257.out 2).trans rfl,(blk_cell BK257.out 3).trans rfl,(blk_cell BK257.out 4).trans rfl,HS5_,HS6_,HS7_,HS8_,HS9_,HS10_,HS11_⟩ (fun hHeld=>?_)
               clear hK K
               refine norm_ (a':=?_) ?_ ?_
               rotate_left
               ·show Act.put _ (some 8) _ = _
                simp only [Act.put,List.setIfInBounds_toArray,List.set_cons_zero,List.set_cons_succ,i64_w,i32_w]
                rfl
               refine one_ (i:=6) (N:=some 34) #[true,true,true,true,true,true,true,false,true,false] rfl rfl (one_of HT_.out (by kernel_rfl)) (by decide) (fun K hK=>?_)
               refine goes_ Try.func18 (by kernel_rfl) rfl #[.agg #[.int .i64 a0_0,.int .i64 a0_1,.slice A0_2 l0_2.length c0_2,.int .i64 a0_3,.int .u32 a0_4],.int .i64 Aj] (by rfl) rfl rfl qAs16_5 ?_
               with_reducible refine (kinds_by.calls a0_0 a0_1 _ _ l0_2 a0_3 a0_4 Aj Ar As At Au Av Aw Ax _ ?side1 ?side2 A17.out).mono ?_
               (case side1=>repeat (first|exact (Kd.C_below HR0_2.out HB.out)|(with_reducible refine Kd.C_alloc ?_ _)|(with_reducible refine Kd.C_drewN ?_ _)|(with_reducible refine Kd.C_drew ?_)))
               (case side2=>exact HC0_2.out)
               rintro e w41 ⟨rfl,hb⟩
               have HS5_:=(hb.cell (World.block_lt_of_cell? _ _ (hHeld.2.2.2.2.2.1))).trans (hHeld.2.2.2.2.2.1)
               have HS6_:=(hb.cell (World.block_lt_of_cell? _ _ (hHeld.2.2.2.2.2.2.1))).trans (hHeld.2.2.2.2.2.2.1)
               have HS7_:=(hb.cell (World.block_lt_of_cell? _ _ (hHeld.2.2.2.2.2.2.2.1))).trans (hHeld.2.2.2.2.2.2.2.1)
               have HS8_:=(hb.cell (World.block_lt_of_cell? _ _ (hHeld.2.2.2.2.2.2.2.2.1))).trans (hHeld.2.2.2.2.2.2.2.2.1)
               have HS9_:=(hb.cell (World.block_lt_of_cell? _ _ (hHeld.2.2.2.2.2.2.2.2.2.1))).trans (hHeld.2.2.2.2.2.2.2.2.2.1)
               have HS10_:=(hb.cell (World.block_lt_of_cell? _ _ (hHeld.2.2.2.2.2.2.2.2.2.2.1))).trans (hHeld.2.2.2.2.2.2.2.2.2.2.1)
               have HS11_:=(hb.cell (World.block_lt_of_cell? _ _ (hHeld.2.2.2.2.2.2.2.2.2.2.2))).trans (hHeld.2.2.2.2.2.2.2.2.2.2.2)
               refine ⟨_,rfl,?_⟩
               have n0_:=Aside0.mk (Kd.R_below (qRs16_ Aa.out) hb)
               have n1_:=Aside0.mk (blk_below (g:=gb257) (o:=.cells #[.int .i64 a0_0,.int .i64 a0_1,.slice A0_2 l0_2.length c0_2,.int .i64 a0_3,.int .u32 a0_4] 25 (0,0)) (qDs16_ BK257.out) hb)
               have n2_:=Aside0.mk (blk_below (g:=Ab) (o:=.cells #[.int .i64 0,.int .i64 0,.int .i64 0,.int .i64 0,.int .i64 0,.int .i64 0,.int .i64 0] 44 (0,0)) (qDs16_ Af.out) hb)
               have n3_:=Aside0.mk (below_step qBs16_4 hb)
               clear Aa
               clear BK257
               clear Af
               clear HB
               have Aa:=n0_
               have BK257:=n1_
               have Af:=n2_
               have HB:=n3_
               clear n0_ n1_ n2_ n3_
               (try clear hb)
               (try clear hb2)
               (try clear hk)
               (try clear hi)
               refine hK.out _ _ ⟨(blk_cell BK257.out 0).trans rfl,(blk_cell BK257.out 1).trans rfl,(blk_cell BK257.out 2).trans rfl,(blk_cell BK257.out 3).trans rfl,(blk_cell BK257.out 4).trans rfl,HS5_,HS6_,HS7_,HS8_,HS9_,HS10_,HS11_⟩ (fun hHeld=>?_)
               clear hK K
               refine norm_ (a':=?_) ?_ ?_
               rotate_left
               ·show Act.put _ (some 34) _ = _
                simp only [Act.put,List.setIfInBounds_toArray,List.set_cons_zero,List.set_cons_succ,i64_w,i32_w]
                rfl
               refine one_ (i:=7) (N:=some 35) #[true,true,true,true,true,true,true,true,true,false] rfl rfl (one_of HT_.out (by kernel_rfl)) (by decide) (fun K hK=>?_)
               refine goes_ Try.func17 (by kernel_rfl) rfl #[.agg #[.int .i64 ((rd_T44 Ae Ad).f0),.int .i64 ((rd_T44 Ae Ad).f1),.int .i64 ((rd_T44 Ae Ad).f2),.int .i64 ((rd_T44 Ae Ad).f3),.int .i64 ((rd_T44 Ae Ad).f4),.int .i64 ((rd_T44 Ae Ad).f5),.int .i64 ((rd_T44 Ae Ad).f6)],.agg #[.int .i64 Ar,.int .i64 As,.int .i64 At,.int .i64 Au,.int .i64 Av,.int .i64 Aw,.int .i64 Ax]] (by rfl) rfl rfl qAs16_5 ?_
               with_reducible refine (kinds_move_then.calls ((rd_T44 Ae Ad).f0) ((rd_T44 Ae Ad).f1) ((rd_T44 Ae Ad).f2) ((rd_T44 Ae Ad).f3) ((rd_T44 Ae Ad).f4) ((rd_T44 Ae Ad).f5) ((rd_T44 Ae Ad).f6) Ar As At Au Av Aw Ax Ah Ai Ak Al Am An Ao _ A18.out).mono ?_
               rintro e w42 ⟨rfl,hb⟩
               have HS5_:=(hb.cell (World.block_lt_of_cell? _ _ (hHeld.2.2.2.2.2.1))).trans (hHeld.2.2.2.2.2.1)
               have HS6_:=(hb.cell (World.block_lt_of_cell? _ _ (hHeld.2.2.2.2.2.2.1))).trans (hHeld.2.2.2.2.2.2.1)
               have HS7_:=(hb.cell (World.block_lt_of_cell? _ _ (hHeld.2.2.2.2.2.2.2.1))).trans (hHeld.2.2.2.2.2.2.2.1)
               have HS8_:=(hb.cell (World.block_lt_of_cell? _ _ (hHeld.2.2.2.2.2.2.2.2.1))).trans (hHeld.2.2.2.2.2.2.2.2.1)
               have HS9_:=(hb.cell (World.block_lt_of_cell? _ _ (hHeld.2.2.2.2.2.2.2.2.2.1))).trans (hHeld.2.2.2.2.2.2.2.2.2.1)
               have HS10_:=(hb.cell (World.block_lt_of_cell? _ _ (hHeld.2.2.2.2.2.2.2.2.2.2.1))).trans (hHeld.2.2.2.2.2.2.2.2.2.2.1)
               have HS11_:=(hb.cell (World.block_lt_of_cell? _ _ (hHeld.2.2.2.2.2.2.2.2.2.2.2))).trans (hHeld.2.2.2.2.2.2.2.2.2.2.2)
               refine ⟨_,rfl,?_⟩
               have n0_:=Aside0.mk (Kd.R_below (qRs16_ Aa.out) hb)
               have n1_:=Aside0.mk (blk_below (g:=gb257) (o:=.cells #[.int .i64 a0_0,.int .i64 a0_1,.slice A0_2 l0_2.length c0_2,.int .i64 a0_3,.int .u32 a0_4] 25 (0,0)) (qDs16_ BK257.out) hb)
               have n2_:=Aside0.mk (blk_below (g:=Ab) (o:=.cells #[.int .i64 0,.int .i64 0,.int .i64 0,.int .i64 0,.int .i64 0,.int .i64 0,.int .i64 0] 44 (0,0)) (qDs16_ Af.out) hb)
               have n3_:=Aside0.mk (below_step qBs16_4 hb)
               clear Aa
               clear BK257
               clear Af
               clear HB
               have Aa:=n0_
               have BK257:=n1_
               have Af:=n2_
               have HB:=n3_
               clear n0_ n1_ n2_ n3_
               (try clear hb)
               (try clear hb2)
               (try clear hk)
               (try clear hi)
               refine hK.out _ _ ⟨(blk_cell BK257.out 0).trans rfl,(blk_cell BK257.out 1).trans rfl,(blk_cell BK257.out 2).trans rfl,(blk_cell BK257.out 3).trans rfl,(blk_cell BK257.out 4).trans rfl,HS5_,HS6_,HS7_,HS8_,HS9_,HS10_,HS11_⟩ (fun hHeld=>?_)
               clear hK K
               refine norm_ (a':=?_) ?_ ?_
               rotate_left
               ·show Act.put _ (some 35) _ = _
                simp only [Act.put,List.setIfInBounds_toArray,List.set_cons_zero,List.set_cons_succ,i64_w,i32_w]
                rfl
               exact norm_ (by simp only [putAll,Act.put,List.setIfInBounds_toArray,List.set_cons_zero,List.set_cons_succ]) (hCont (Ab) _ ⟨hHeld,(by (with_reducible repeat (first|apply Kd.R_alloc|apply Kd.R_drewN|apply Kd.R_drew));exact Kd.R_mono Aa.out (fun _ hk=>hk.2)),(qDs16_ BK257.out),(qDs16_ Af.out),Aq.out,Ap.out,Ac.out,Ag.out,qBs16_4⟩)
             rintro Ab w43 ⟨hS_,h0_,h1_,h2_,h3_,h4_,h5_,h6_,h7_⟩
             have n0_ : Aside0 (Kd.R k44 44 w43 w.heap.size (fun k_=>k_ ≠ Ab) (.slice (some ad268) Ae.length co39) Ae):=⟨h0_⟩
             have n1_ : Aside0 (w43.heap[gb257]? = some (.cells #[.int .i64 a0_0,.int .i64 a0_1,.slice A0_2 l0_2.length c0_2,.int .i64 a0_3,.int .u32 a0_4] 25 (0,0))):=⟨h1_⟩
             have n2_ : Aside0 (w43.heap[Ab]? = some (.cells #[.int .i64 0,.int .i64 0,.int .i64 0,.int .i64 0,.int .i64 0,.int .i64 0,.int .i64 0] 44 (0,0))):=⟨h2_⟩
             have n3_ : Aside0 (w.heap.size ≤ Ab):=⟨h3_⟩
             have n4_ : Aside0 (w.heap.size ≤ Ab):=⟨h4_⟩
             have n5_ : Aside0 (gb257 ≠ Ab):=⟨h5_⟩
             have n6_ : Aside0 (Ab ≠ gb257):=⟨h6_⟩
             have n7_ : Aside0 (Below w.heap.size w w43):=⟨h7_⟩
             clear Aa
             clear BK257
             clear HB
             clear h0_ h1_ h2_ h3_ h4_ h5_ h6_ h7_
             have Aa:=n0_
             have BK257:=n1_
             have Af:=n2_
             have Aq:=n3_
             have Ap:=n4_
             have Ac:=n5_
             have Ag:=n6_
             have HB:=n7_
             clear n0_ n1_ n2_ n3_ n4_ n5_ n6_ n7_
             have hHeld : w43.cell? ⟨gb257,0,none⟩ = some (.int .i64 a0_0) ∧ w43.cell? ⟨gb257,1,none⟩ = some (.int .i64 a0_1) ∧ w43.cell? ⟨gb257,2,none⟩ = some (.slice A0_2 l0_2.length c0_2) ∧ w43.cell? ⟨gb257,3,none⟩ = some (.int .i64 a0_3) ∧ w43.cell? ⟨gb257,4,none⟩ = some (.int .u32 a0_4) ∧ w43.cell? (ad268.add ((Ad).toNat * 7)) = some (.int .i64 ((rd_T44 Ae Ad).f0)) ∧ w43.cell? ⟨(ad268.add ((Ad).toNat * 7)).block,(ad268.add ((Ad).toNat * 7)).off + 1,none⟩ = some (.int .i64 ((rd_T44 Ae Ad).f1)) ∧ w43.cell? ⟨(ad268.add ((Ad).toNat * 7)).block,(ad268.add ((Ad).toNat * 7)).off + 2,none⟩ = some (.int .i64 ((rd_T44 Ae Ad).f2)) ∧ w43.cell? ⟨(ad268.add ((Ad).toNat * 7)).block,(ad268.add ((Ad).toNat * 7)).off + 3,none⟩ = some (.int .i64 ((rd_T44 Ae Ad).f3)) ∧ w43.cell? ⟨(ad268.add ((Ad).toNat * 7)).block,(ad268.add ((Ad).toNat * 7)).off + 4,none⟩ = some (.int .i64 ((rd_T44 Ae Ad).f4)) ∧ w43.cell? ⟨(ad268.add ((Ad).toNat * 7)).block,(ad268.add ((Ad).toNat * 7)).off + 5,none⟩ = some (.int .i64 ((rd_T44 Ae Ad).f5)) ∧ w43.cell? ⟨(ad268.add ((Ad).toNat * 7)).block,(ad268.add ((Ad).toNat * 7)).off + 6,none⟩ = some (.int .i64 ((rd_T44 Ae Ad).f6)):=hS_
             refine norm_ (a':=?_) ?_ ?_
             rotate_left
             ·simp only [putAll,Act.put,List.setIfInBounds_toArray,List.set_cons_zero,List.set_cons_succ]
              rfl
             refine one_ (i:=9) (N:=none) #[true,true,true,true,true,true,true,true,true,true] rfl rfl (one_of HT_.out (by kernel_rfl)) (by decide) (fun K hK=>?_)
             have hs44 : w43.cell? ⟨Ab,0,none⟩ = some (.int .i64 0):=(blk_cell Af.out 0).trans rfl
             have hfs44:=blk_frozen Af.out 0
             have hns44_0:=Ac.out
             have hms44_0:=Ag.out
             have hs45 : w43.cell? ⟨Ab,1,none⟩ = some (.int .i64 0):=(blk_cell Af.out 1).trans rfl
             have hfs45:=blk_frozen Af.out 1
             have hns45_0:=Ac.out
             have hms45_0:=Ag.out
             have hs46 : w43.cell? ⟨Ab,2,none⟩ = some (.int .i64 0):=(blk_cell Af.out 2).trans rfl
             have hfs46:=blk_frozen Af.out 2
             have hns46_0:=Ac.out
             have hms46_0:=Ag.out
             have hs47 : w43.cell? ⟨Ab,3,none⟩ = some (.int .i64 0):=(blk_cell Af.out 3).trans rfl
             have hfs47:=blk_frozen Af.out 3
             have hns47_0:=Ac.out
             have hms47_0:=Ag.out
             have hs48 : w43.cell? ⟨Ab,4,none⟩ = some (.int .i64 0):=(blk_cell Af.out 4).trans rfl
             have hfs48:=blk_frozen Af.out 4
             have hns48_0:=Ac.out
             have hms48_0:=Ag.out
             have hs49 : w43.cell? ⟨Ab,5,none⟩ = some (.int .i64 0):=(blk_cell Af.out 5).trans rfl
             have hfs49:=blk_frozen Af.out 5
             have hns49_0:=Ac.out
             have hms49_0:=Ag.out
             have hs50 : w43.cell? ⟨Ab,6,none⟩ = some (.int .i64 0):=(blk_cell Af.out 6).trans rfl
             have hfs50:=blk_frozen Af.out 6
             have hns50_0:=Ac.out
             have hms50_0:=Ag.out
             refine skip_ (w1:=?_) (by rfl) rfl ?_ ?_
             rotate_left
             ·go_simp
              rfl
             refine hK.out _ _ ⟨((cell_far (p:=⟨Ab,_,none⟩) Ac.out _).trans (((cell_far (p:=⟨Ab,_,none⟩) Ac.out _).trans (((cell_far (p:=⟨Ab,_,none⟩) Ac.out _).trans (((cell_far (p:=⟨Ab,_,none⟩) Ac.out _).trans (((cell_far (p:=⟨Ab,_,none⟩) Ac.out _).trans (((cell_far (p:=⟨Ab,_,none⟩) Ac.out _).trans (((cell_far (p:=⟨Ab,_,none⟩) Ac.out _).trans (hHeld.1)))))))))))))),((cell_far (p:=⟨Ab,_,none⟩) Ac.out _).trans (((cell_far (p:=⟨Ab,_,none⟩) Ac.out _).trans (((cell_far (p:=⟨Ab,_,none⟩) Ac.out _).trans (((cell_far (p:=⟨Ab,_,none⟩) Ac.out _).trans (((cell_far (p:=⟨Ab,_,none⟩) Ac.out _).trans (((cell_far (p:=⟨Ab,_,none⟩) Ac.out _).trans (((cell_far (p:=⟨Ab,_,none⟩) Ac.out _).trans (hHeld.2.1)))))))))))))),((cell_far (p:=⟨Ab,_,none⟩) Ac.out _).trans (((cell_far (p:=⟨Ab,_,none⟩) Ac.out _).trans (((cell_far (p:=⟨Ab,_,none⟩) Ac.out _).trans (((cell_far (p:=⟨Ab,_,none⟩) Ac.out _).trans (((cell_far (p:=⟨Ab,_,none⟩) Ac.out _).trans (((cell_far (p:=⟨Ab,_,none⟩) Ac.out _).trans (((cell_far (p:=⟨Ab,_,none⟩) Ac.out _).trans (hHeld.2.2.1)))))))))))))),((cell_far (p:=⟨Ab,_,none⟩) Ac.out _).trans (((cell_far (p:=⟨Ab,_,none⟩) Ac.out _).trans (((cell_far (p:=⟨Ab,_,none⟩) Ac.out _).trans (((cell_far (p:=⟨Ab,_,none⟩) Ac.out _).trans (((cell_far (p:=⟨Ab,_,none⟩) Ac.out _).trans (((cell_far (p:=⟨Ab,_,none⟩) Ac.out _).trans (((cell_far (p:=⟨Ab,_,none⟩) Ac.out _).trans (hHeld.2.2.2.1)))))))))))))),((cell_far (p:=⟨Ab,_,none⟩) Ac.out _).trans (((cell_far (p:=⟨Ab,_,none⟩) Ac.out _).trans (((cell_far (p:=⟨Ab,_,none⟩) Ac.out _).trans (((cell_far (p:=⟨Ab,_,none⟩) Ac.out _).trans (((cell_far (p:=⟨Ab,_,none⟩) Ac.out _).trans (((cell_far (p:=⟨Ab,_,none⟩) Ac.out _).trans (((cell_far (p:=⟨Ab,_,none⟩) Ac.out _).trans (hHeld.2.2.2.2.1)))))))))))))),((cell_far (p:=⟨Ab,_,none⟩) (by first|exact Kd.own_blk (Kd.R_away Aa.out (fun _ hk=>hk))|(rw [add_block];exact Kd.own_blk (Kd.R_away Aa.out (fun _ hk=>hk)))|(show (Addr.add _ _).block ≠ _;rw [add_block];exact Kd.own_blk (Kd.R_away Aa.out (fun _ hk=>hk)))|(dsimp only;exact Kd.own_blk (Kd.R_away Aa.out (fun _ hk=>hk)))) _).trans (((cell_far (p:=⟨Ab,_,none⟩) (by first|exact Kd.own_blk (Kd.R_away Aa.out (fun _ hk=>hk))|(rw [add_block];exact Kd.own_blk (Kd.R_away Aa.out (fun _ hk=>hk)))|(show (Addr.add _ _).block ≠ _;rw [add_block];exact Kd.own_blk (Kd.R_away Aa.out (fun _ hk=>hk)))|(dsimp only;exact Kd.own_blk (Kd.R_away Aa.out (fun _ hk=>hk)))) _).trans (((cell_far (p:=⟨Ab,_,none⟩) (by first|exact Kd.own_blk (Kd.R_away Aa.out (fun _ hk=>hk))|(rw [add_block];exact Kd.own_blk (Kd.R_away Aa.out (fun _ hk=>hk)))|(show (Addr.add _ _).block ≠ _;rw [add_block];exact Kd.own_blk (Kd.R_away Aa.out (fun _ hk=>hk)))|(dsimp only;exact Kd.own_blk (Kd.R_away Aa.out (fun _ hk=>hk)))) _).trans (((cell_far (p:=⟨Ab,_,none⟩) (by first|exact Kd.own_blk (Kd.R_away Aa.out (fun _ hk=>hk))|(rw [add_block];exact Kd.own_blk (Kd.R_away Aa.out (fun _ hk=>hk)))|(show (Addr.add _ _).block ≠ _;rw [add_block];exact Kd.own_blk (Kd.R_away Aa.out (fun _ hk=>hk)))|(dsimp only;exact Kd.own_blk (Kd.R_away Aa.out (fun _ hk=>hk)))) _).trans (((cell_far (p:=⟨Ab,_,none⟩) (by first|exact Kd.own_blk (Kd.R_away Aa.out (fun _ hk=>hk))|(rw [add_block];exact Kd.own_blk (Kd.R_away Aa.out (fun _ hk=>hk)))|(show (Addr.add _ _).block ≠ _;rw [add_block];exact Kd.own_blk (Kd.R_away Aa.out (fun _ hk=>hk)))|(dsimp only;exact Kd.own_blk (Kd.R_away Aa.out (fun _ hk=>hk)))) _).trans (((cell_far (p:=⟨Ab,_,none⟩) (by first|exact Kd.own_blk (Kd.R_away Aa.out (fun _ hk=>hk))|(rw [add_block];exact Kd.own_blk (Kd.R_away Aa.out (fun _ hk=>hk)))|(show (Addr.add _ _).block ≠ _;rw [add_block];exact Kd.own_blk (Kd.R_away Aa.out (fun _ hk=>hk)))|(dsimp only;exact Kd.own_blk (Kd.R_away Aa.out (fun _ hk=>hk)))) _).trans (((cell_far (p:=⟨Ab,_,none⟩) (by first|exact Kd.own_blk (Kd.R_away Aa.out (fun _ hk=>hk))|(rw [add_block];exact Kd.own_blk (Kd.R_away Aa.out (fun _ hk=>hk)))|(show (Addr.add _ _).block ≠ _;rw [add_block];exact Kd.own_blk (Kd.R_away Aa.out (fun _ hk=>hk)))|(dsimp only;exact Kd.own_blk (Kd.R_away Aa.out (fun _ hk=>hk)))) _).trans (hHeld.2.2.2.2.2.1)))))))))))))),((cell_far (p:=⟨Ab,_,none⟩) (by first|exact Kd.own_blk (Kd.R_away Aa.out (fun _ hk=>hk))|(rw [add_block];exact Kd.own_blk (Kd.R_away Aa.out (fun _ hk=>hk)))|(show (Addr.add _ _).block ≠ _;rw [add_block];exact Kd.own_blk (Kd.R_away Aa.out (fun _ hk=>hk)))|(dsimp only;exact Kd.own_blk (Kd.R_away Aa.out (fun _ hk=>hk)))) _).trans (((cell_far (p:=⟨Ab,_,none⟩) (by first|exact Kd.own_blk (Kd.R_away Aa.out (fun _ hk=>hk))|(rw [add_block];exact Kd.own_blk (Kd.R_away Aa.out (fun _ hk=>hk)))|(show (Addr.add _ _).block ≠ _;rw [add_block];exact Kd.own_blk (Kd.R_away Aa.out (fun _ hk=>hk)))|(dsimp only;exact Kd.own_blk (Kd.R_away Aa.out (fun _ hk=>hk)))) _).trans (((cell_far (p:=⟨Ab,_,none⟩) (by first|exact Kd.own_blk (Kd.R_away Aa.out (fun _ hk=>hk))|(rw [add_block];exact Kd.own_blk (Kd.R_away Aa.out (fun _ hk=>hk)))|(show (Addr.add _ _).block ≠ _;rw [add_block];exact Kd.own_blk (Kd.R_away Aa.out (fun _ hk=>hk)))|(dsimp only;exact Kd.own_blk (Kd.R_away Aa.out (fun _ hk=>hk)))) _).trans (((cell_far (p:=⟨Ab,_,none⟩) (by first|exact Kd.own_blk (Kd.R_away Aa.out (fun _ hk=>hk))|(rw [add_block];exact Kd.own_blk (Kd.R_away Aa.out (fun _ hk=>hk)))|(show (Addr.add _ _).block ≠ _;rw [add_block];exact Kd.own_blk (Kd.R_away Aa.out (fun _ hk=>hk)))|(dsimp only;exact Kd.own_blk (Kd.R_away Aa.out (fun _ hk=>hk)))) _).trans (((cell_far (p:=⟨Ab,_,none⟩) (by first|exact Kd.own_blk (Kd.R_away Aa.out (fun _ hk=>hk))|(rw [add_block];exact Kd.own_blk (Kd.R_away Aa.out (fun _ hk=>hk)))|(show (Addr.add _ _).block ≠ _;rw [add_block];exact Kd.own_blk (Kd.R_away Aa.out (fun _ hk=>hk)))|(dsimp only;exact Kd.own_blk (Kd.R_away Aa.out (fun _ hk=>hk)))) _).trans (((cell_far (p:=⟨Ab,_,none⟩) (by first|exact Kd.own_blk (Kd.R_away Aa.out (fun _ hk=>hk))|(rw [add_block];exact Kd.own_blk (Kd.R_away Aa.out (fun _ hk=>hk)))|(show (Addr.add _ _).block ≠ _;rw [add_block];exact Kd.own_blk (Kd.R_away Aa.out (fun _ hk=>hk)))|(dsimp only;exact Kd.own_blk (Kd.R_away Aa.out (fun _ hk=>hk)))) _).trans (((cell_far (p:=⟨Ab,_,none⟩) (by first|exact Kd.own_blk (Kd.R_away Aa.out (fun _ hk=>hk))|(rw [add_block];exact Kd.own_blk (Kd.R_away Aa.out (fun _ hk=>hk)))|(show (Addr.add _ _).block ≠ _;rw [add_block];exact Kd.own_blk (Kd.R_away Aa.out (fun _ hk=>hk)))|(dsimp only;exact Kd.own_blk (Kd.R_away Aa.out (fun _ hk=>hk)))) _).trans (hHeld.2.2.2.2.2.2.1)))))))))))))),((cell_far (p:=⟨Ab,_,none⟩) (by first|exact Kd.own_blk (Kd.R_away Aa.out (fun _ hk=>hk))|(rw [add_block];exact Kd.own_blk (Kd.R_away Aa.out (fun _ hk=>hk)))|(show (Addr.add _ _).block ≠ _;rw [add_block];exact Kd.own_blk (Kd.R_away Aa.out (fun _ hk=>hk)))|(dsimp only;exact Kd.own_blk (Kd.R_away Aa.out (fun _ hk=>hk)))) _).trans (((cell_far (p:=⟨Ab,_,none⟩) (by first|exact Kd.own_blk (Kd.R_away Aa.out (fun _ hk=>hk))|(rw [add_block];exact Kd.own_blk (Kd.R_away Aa.out (fun _ hk=>hk)))|(show (Addr.add _ _).block ≠ _;rw [add_block];exact Kd.own_blk (Kd.R_away Aa.out (fun _ hk=>hk)))|(dsimp only;exact Kd.own_blk (Kd.R_away Aa.out (fun _ hk=>hk)))) _).trans (((cell_far (p:=⟨Ab,_,none⟩) (by first|exact Kd.own_blk (Kd.R_away Aa.out (fun _ hk=>hk))|(rw [add_block];exact Kd.own_blk (Kd.R_away Aa.out (fun _ hk=>hk)))|(show (Addr.add _ _).block ≠ _;rw [add_block];exact Kd.own_blk (Kd.R_away Aa.out (fun _ hk=>hk)))|(dsimp only;exact Kd.own_blk (Kd.R_away Aa.out (fun _ hk=>hk)))) _).trans (((cell_far (p:=⟨Ab,_,none⟩) (by first|exact Kd.own_blk (Kd.R_away Aa.out (fun _ hk=>hk))|(rw [add_block];exact Kd.own_blk (Kd.R_away Aa.out (fun _ hk=>hk)))|(show (Addr.add _ _).block ≠ _;rw [add_block];exact Kd.own_blk (Kd.R_away Aa.out (fun _ hk=>hk)))|(dsimp only;exact Kd.own_blk (Kd.R_away Aa.out (fun _ hk=>hk)))) _).trans (((cell_far (p:=⟨Ab,_,none⟩) (by first|exact Kd.own_blk (Kd.R_away Aa.out (fun _ hk=>hk))|(rw [add_block];exact Kd.own_blk (Kd.R_away Aa.out (fun _ hk=>hk)))|(show (Addr.add _ _).block ≠ _;rw [add_block];exact Kd.own_blk (Kd.R_away Aa.out (fun _ hk=>hk)))|(dsimp only;exact Kd.own_blk (Kd.R_away Aa.out (fun _ hk=>hk)))) _).trans (((cell_far (p:=⟨Ab,_,none⟩) (by first|exact Kd.own_blk (Kd.R_away Aa.out (fun _ hk=>hk))|(rw [add_block];exact Kd.own_blk (Kd.R_away Aa.out (fun _ hk=>hk)))|(show (Addr.add _ _).block ≠ _;rw [add_block];exact Kd.own_blk (Kd.R_away Aa.out (fun _ hk=>hk)))|(dsimp only;exact Kd.own_blk (Kd.R_away Aa.out (fun _ hk=>hk)))) _).trans (((cell_far (p:=⟨Ab,_,none⟩) (by first|exact Kd.own_blk (Kd.R_away Aa.out (fun _ hk=>hk))|(rw [add_block];exact Kd.own_blk (Kd.R_away Aa.out (fun _ hk=>hk)))|(show (Addr.add _ _).block ≠ _;rw [add_block];exact Kd.own_blk (Kd.R_away Aa.out (fun _ hk=>hk)))|(dsimp only;exact Kd.own_blk (Kd.R_away Aa.out (fun _ hk=>hk)))) _).trans (hHeld.2.2.2.2.2.2.2.1)))))))))))))),((cell_far (p:=⟨Ab,_,none⟩) (by first|exact Kd.own_blk (Kd.R_away Aa.out (fun _ hk=>hk))|(rw [add_block];exact Kd.own_blk (Kd.R_away Aa.out (fun _ hk=>hk)))|(show (Addr.add _ _).block ≠ _;rw [add_block];exact Kd.own_blk (Kd.R_away Aa.out (fun _ hk=>hk)))|(dsimp only;exact Kd.own_blk (Kd.R_away Aa.out (fun _ hk=>hk)))) _).trans (((cell_far (p:=⟨Ab,_,none⟩) (by first|exact Kd.own_blk (Kd.R_away Aa.out (fun _ hk=>hk))|(rw [add_block];exact Kd.own_blk (Kd.R_away Aa.out (fun _ hk=>hk)))|(show (Addr.add _ _).block ≠ _;rw [add_block];exact Kd.own_blk (Kd.R_away Aa.out (fun _ hk=>hk)))|(dsimp only;exact Kd.own_blk (Kd.R_away Aa.out (fun _ hk=>hk)))) _).trans (((cell_far (p:=⟨Ab,_,none⟩) (by first|exact Kd.own_blk (Kd.R_away Aa.out (fun _ hk=>hk))|(rw [add_block];exact Kd.own_blk (Kd.R_away Aa.out (fun _ hk=>hk)))|(show (Addr.add _ _).block ≠ _;rw [add_block];exact Kd.own_blk (Kd.R_away Aa.out (fun _ hk=>hk)))|(dsimp only;exact Kd.own_blk (Kd.R_away Aa.out (fun _ hk=>hk)))) _).trans (((cell_far (p:=⟨Ab,_,none⟩) (by first|exact Kd.own_blk (Kd.R_away Aa.out (fun _ hk=>hk))|(rw [add_block];exact Kd.own_blk (Kd.R_away Aa.out (fun _ hk=>hk)))|(show (Addr.add _ _).block ≠ _;rw [add_block];exact Kd.own_blk (Kd.R_away Aa.out (fun _ hk=>hk)))|(dsimp only;exact Kd.own_blk (Kd.R_away Aa.out (fun _ hk=>hk)))) _).trans (((cell_far (p:=⟨Ab,_,none⟩) (by first|exact Kd.own_blk (Kd.R_away Aa.out (fun _ hk=>hk))|(rw [add_block];exact Kd.own_blk (Kd.R_away Aa.out (fun _ hk=>hk)))|(show (Addr.add _ _).block ≠ _;rw [add_block];exact Kd.own_blk (Kd.R_away Aa.out (fun _ hk=>hk)))|(dsimp only;exact Kd.own_blk (Kd.R_away Aa.out (fun _ hk=>hk)))) _).trans (((cell_far (p:=⟨Ab,_,none⟩) (by first|exact Kd.own_blk (Kd.R_away Aa.out (fun _ hk=>hk))|(rw [add_block];exact Kd.own_blk (Kd.R_away Aa.out (fun _ hk=>hk)))|(show (Addr.add _ _).block ≠ _;rw [add_block];exact Kd.own_blk (Kd.R_away Aa.out (fun _ hk=>hk)))|(dsimp only;exact Kd.own_blk (Kd.R_away Aa.out (fun _ hk=>hk)))) _).trans (((cell_far (p:=⟨Ab,_,none⟩) (by first|exact Kd.own_blk (Kd.R_away Aa.out (fun _ hk=>hk))|(rw [add_block];exact Kd.own_blk (Kd.R_away Aa.out (fun _ hk=>hk)))|(show (Addr.add _ _).block ≠ _;rw [add_block];exact Kd.own_blk (Kd.R_away Aa.out (fun _ hk=>hk)))|(dsimp only;exact Kd.own_blk (Kd.R_away Aa.out (fun _ hk=>hk)))) _).trans (hHeld.2.2.2.2.2.2.2.2.1)))))))))))))),((cell_far (p:=⟨Ab,_,none⟩) (by first|exact Kd.own_blk (Kd.R_away Aa.out (fun _ hk=>hk))|(rw [add_block];exact Kd.own_blk (Kd.R_away Aa.out (fun _ hk=>hk)))|(show (Addr.add _ _).block ≠ _;rw [add_block];exact Kd.own_blk (Kd.R_away Aa.out (fun _ hk=>hk)))|(dsimp only;exact Kd.own_blk (Kd.R_away Aa.out (fun _ hk=>hk)))) _).trans (((cell_far (p:=⟨Ab,_,none⟩) (by first|exact Kd.own_blk (Kd.R_away Aa.out (fun _ hk=>hk))|(rw [add_block];exact Kd.own_blk (Kd.R_away Aa.out (fun _ hk=>hk)))|(show (Addr.add _ _).block ≠ _;rw [add_block];exact Kd.own_blk (Kd.R_away Aa.out (fun _ hk=>hk)))|(dsimp only;exact Kd.own_blk (Kd.R_away Aa.out (fun _ hk=>hk)))) _).trans (((cell_far (p:=⟨Ab,_,none⟩) (by first|exact Kd.own_blk (Kd.R_away Aa.out (fun _ hk=>hk))|(rw [add_block];exact Kd.own_blk (Kd.R_away Aa.out (fun _ hk=>hk)))|(show (Addr.add _ _).block ≠ _;rw [add_block];exact Kd.own_blk (Kd.R_away Aa.out (fun _ hk=>hk)))|(dsimp only;exact Kd.own_blk (Kd.R_away Aa.out (fun _ hk=>hk)))) _).trans (((cell_far (p:=⟨Ab,_,none⟩) (by first|exact Kd.own_blk (Kd.R_away Aa.out (fun _ hk=>hk))|(rw [add_block];exact Kd.own_blk (Kd.R_away Aa.out (fun _ hk=>hk)))|(show (Addr.add _ _).block ≠ _;rw [add_block];exact Kd.own_blk (Kd.R_away Aa.out (fun _ hk=>hk)))|(dsimp only;exact Kd.own_blk (Kd.R_away Aa.out (fun _ hk=>hk)))) _).trans (((cell_far (p:=⟨Ab,_,none⟩) (by first|exact Kd.own_blk (Kd.R_away Aa.out (fun _ hk=>hk))|(rw [add_block];exact Kd.own_blk (Kd.R_away Aa.out (fun _ hk=>hk)))|(show (Addr.add _ _).block ≠ _;rw [add_block];exact Kd.own_blk (Kd.R_away Aa.out (fun _ hk=>hk)))|(dsimp only;exact Kd.own_blk (Kd.R_away Aa.out (fun _ hk=>hk)))) _).trans (((cell_far (p:=⟨Ab,_,none⟩) (by first|exact Kd.own_blk (Kd.R_away Aa.out (fun _ hk=>hk))|(rw [add_block];exact Kd.own_blk (Kd.R_away Aa.out (fun _ hk=>hk)))|(show (Addr.add _ _).block ≠ _;rw [add_block];exact Kd.own_blk (Kd.R_away Aa.out (fun _ hk=>hk)))|(dsimp only;exact Kd.own_blk (Kd.R_away Aa.out (fun _ hk=>hk)))) _).trans (((cell_far (p:=⟨Ab,_,none⟩) (by first|exact Kd.own_blk (Kd.R_away Aa.out (fun _ hk=>hk))|(rw [add_block];exact Kd.own_blk (Kd.R_away Aa.out (fun _ hk=>hk)))|(show (Addr.add _ _).block ≠ _;rw [add_block];exact Kd.own_blk (Kd.R_away Aa.out (fun _ hk=>hk)))|(dsimp only;exact Kd.own_blk (Kd.R_away Aa.out (fun _ hk=>hk)))) _).trans (hHeld.2.2.2.2.2.2.2.2.2.1)))))))))))))),((cell_far (p:=⟨Ab,_,none⟩) (by first|exact Kd.own_blk (Kd.R_away Aa.out (fun _ hk=>hk))|(rw [add_block];exact Kd.own_blk (Kd.R_away Aa.out (fun _ hk=>hk)))|(show (Addr.add _ _).block ≠ _;rw [add_block];exact Kd.own_blk (Kd.R_away Aa.out (fun _ hk=>hk)))|(dsimp only;exact Kd.own_blk (Kd.R_away Aa.out (fun _ hk=>hk)))) _).trans (((cell_far (p:=⟨Ab,_,none⟩) (by first|exact Kd.own_blk (Kd.R_away Aa.out (fun _ hk=>hk))|(rw [add_block];exact Kd.own_blk (Kd.R_away Aa.out (fun _ hk=>hk)))|(show (Addr.add _ _).block ≠ _;rw [add_block];exact Kd.own_blk (Kd.R_away Aa.out (fun _ hk=>hk)))|(dsimp only;exact Kd.own_blk (Kd.R_away Aa.out (fun _ hk=>hk)))) _).trans (((cell_far (p:=⟨Ab,_,none⟩) (by first|exact Kd.own_blk (Kd.R_away Aa.out (fun _ hk=>hk))|(rw [add_block];exact Kd.own_blk (Kd.R_away Aa.out (fun _ hk=>hk)))|(show (Addr.add _ _).block ≠ _;rw [add_block];exact Kd.own_blk (Kd.R_away Aa.out (fun _ hk=>hk)))|(dsimp only;exact Kd.own_blk (Kd.R_away Aa.out (fun _ hk=>hk)))) _).trans (((cell_far (p:=⟨Ab,_,none⟩) (by first|exact Kd.own_blk (Kd.R_away Aa.out (fun _ hk=>hk))|(rw [add_block];exact Kd.own_blk (Kd.R_away Aa.out (fun _ hk=>hk)))|(show (Addr.add _ _).block ≠ _;rw [add_block];exact Kd.own_blk (Kd.R_away Aa.out (fun _ hk=>hk)))|(dsimp only;exact Kd.own_blk (Kd.R_away Aa.out (fun _ hk=>hk)))) _).trans (((cell_far (p:=⟨Ab,_,none⟩) (by first|exact Kd.own_blk (Kd.R_away Aa.out (fun _ hk=>hk))|(rw [add_block];exact Kd.own_blk (Kd.R_away Aa.out (fun _ hk=>hk)))|(show (Addr.add _ _).block ≠ _;rw [add_block];exact Kd.own_blk (Kd.R_away Aa.out (fun _ hk=>hk)))|(dsimp only;exact Kd.own_blk (Kd.R_away Aa.out (fun _ hk=>hk)))) _).trans (((cell_far (p:=⟨Ab,_,none⟩) (by first|exact Kd.own_blk (Kd.R_away Aa.out (fun _ hk=>hk))|(rw [add_block];exact Kd.own_blk (Kd.R_away Aa.out (fun _ hk=>hk)))|(show (Addr.add _ _).block ≠ _;rw [add_block];exact Kd.own_blk (Kd.R_away Aa.out (fun _ hk=>hk)))|(dsimp only;exact Kd.own_blk (Kd.R_away Aa.out (fun _ hk=>hk)))) _).trans (((cell_far (p:=⟨Ab,_,none⟩) (by first|exact Kd.own_blk (Kd.R_away Aa.out (fun _ hk=>hk))|(rw [add_block];exact Kd.own_blk (Kd.R_away Aa.out (fun _ hk=>hk)))|(show (Addr.add _ _).block ≠ _;rw [add_block];exact Kd.own_blk (Kd.R_away Aa.out (fun _ hk=>hk)))|(dsimp only;exact Kd.own_blk (Kd.R_away Aa.out (fun _ hk=>hk)))) _).trans (hHeld.2.2.2.2.2.2.2.2.2.2.1)))))))))))))),((cell_far (p:=⟨Ab,_,none⟩) (by first|exact Kd.own_blk (Kd.R_away Aa.out (fun _ hk=>hk))|(rw [add_block];exact Kd.own_blk (Kd.R_away Aa.out (fun _ hk=>hk)))|(show (Addr.add _ _).block ≠ _;rw [add_block];exact Kd.own_blk (Kd.R_away Aa.out (fun _ hk=>hk)))|(dsimp only;exact Kd.own_blk (Kd.R_away Aa.out (fun _ hk=>hk)))) _).trans (((cell_far (p:=⟨Ab,_,none⟩) (by first|exact Kd.own_blk (Kd.R_away Aa.out (fun _ hk=>hk))|(rw [add_block];exact Kd.own_blk (Kd.R_away Aa.out (fun _ hk=>hk)))|(show (Addr.add _ _).block ≠ _;rw [add_block];exact Kd.own_blk (Kd.R_away Aa.out (fun _ hk=>hk)))|(dsimp only;exact Kd.own_blk (Kd.R_away Aa.out (fun _ hk=>hk)))) _).trans (((cell_far (p:=⟨Ab,_,none⟩) (by first|exact Kd.own_blk (Kd.R_away Aa.out (fun _ hk=>hk))|(rw [add_block];exact Kd.own_blk (Kd.R_away Aa.out (fun _ hk=>hk)))|(show (Addr.add _ _).block ≠ _;rw [add_block];exact Kd.own_blk (Kd.R_away Aa.out (fun _ hk=>hk)))|(dsimp only;exact Kd.own_blk (Kd.R_away Aa.out (fun _ hk=>hk)))) _).trans (((cell_far (p:=⟨Ab,_,none⟩) (by first|exact Kd.own_blk (Kd.R_away Aa.out (fun _ hk=>hk))|(rw [add_block];exact Kd.own_blk (Kd.R_away Aa.out (fun _ hk=>hk)))|(show (Addr.add _ _).block ≠ _;rw [add_block];exact Kd.own_blk (Kd.R_away Aa.out (fun _ hk=>hk)))|(dsimp only;exact Kd.own_blk (Kd.R_away Aa.out (fun _ hk=>hk)))) _).trans (((cell_far (p:=⟨Ab,_,none⟩) (by first|exact Kd.own_blk (Kd.R_away Aa.out (fun _ hk=>hk))|(rw [add_block];exact Kd.own_blk (Kd.R_away Aa.out (fun _ hk=>hk)))|(show (Addr.add _ _).block ≠ _;rw [add_block];exact Kd.own_blk (Kd.R_away Aa.out (fun _ hk=>hk)))|(dsimp only;exact Kd.own_blk (Kd.R_away Aa.out (fun _ hk=>hk)))) _).trans (((cell_far (p:=⟨Ab,_,none⟩) (by first|exact Kd.own_blk (Kd.R_away Aa.out (fun _ hk=>hk))|(rw [add_block];exact Kd.own_blk (Kd.R_away Aa.out (fun _ hk=>hk)))|(show (Addr.add _ _).block ≠ _;rw [add_block];exact Kd.own_blk (Kd.R_away Aa.out (fun _ hk=>hk)))|(dsimp only;exact Kd.own_blk (Kd.R_away Aa.out (fun _ hk=>hk)))) _).trans (((cell_far (p:=⟨Ab,_,none⟩) (by first|exact Kd.own_blk (Kd.R_away Aa.out (fun _ hk=>hk))|(rw [add_block];exact Kd.own_blk (Kd.R_away Aa.out (fun _ hk=>hk)))|(show (Addr.add _ _).block ≠ _;rw [add_block];exact Kd.own_blk (Kd.R_away Aa.out (fun _ hk=>hk)))|(dsimp only;exact Kd.own_blk (Kd.R_away Aa.out (fun _ hk=>hk)))) _).trans (hHeld.2.2.2.2.2.2.2.2.2.2.2))))))))))))))⟩ (fun hHeld=>?_)
             clear hK K
             refine done_ (done_of HT_.out (by kernel_rfl)) ?_
             have hnb51:=Ag.out
             have hnc51:=Ac.out
             have hcz52_0 : w43.cell? ⟨Ab,0,none⟩ = some (.int .i64 0):=(blk_cell Af.out 0).trans rfl
             have hcz52_1 : w43.cell? ⟨Ab,1,none⟩ = some (.int .i64 0):=(blk_cell Af.out 1).trans rfl
             have hcz52_2 : w43.cell? ⟨Ab,2,none⟩ = some (.int .i64 0):=(blk_cell Af.out 2).trans rfl
             have hcz52_3 : w43.cell? ⟨Ab,3,none⟩ = some (.int .i64 0):=(blk_cell Af.out 3).trans rfl
             have hcz52_4 : w43.cell? ⟨Ab,4,none⟩ = some (.int .i64 0):=(blk_cell Af.out 4).trans rfl
             have hcz52_5 : w43.cell? ⟨Ab,5,none⟩ = some (.int .i64 0):=(blk_cell Af.out 5).trans rfl
             have hcz52_6 : w43.cell? ⟨Ab,6,none⟩ = some (.int .i64 0):=(blk_cell Af.out 6).trans rfl
             have hfz52_0:=blk_frozen Af.out 0
             have hfz52_1:=blk_frozen Af.out 1
             have hfz52_2:=blk_frozen Af.out 2
             have hfz52_3:=blk_frozen Af.out 3
             have hfz52_4:=blk_frozen Af.out 4
             have hfz52_5:=blk_frozen Af.out 5
             have hfz52_6:=blk_frozen Af.out 6
             try go_wp2_with (first|((with_reducible refine gate_callee (f:=36) rfl ?_);refine goesL_ (some 38) rfl rfl Try.func36 (by kernel_rfl) rfl #[.slice (some ad268) Ae.length co39,.agg #[.int .i64 Ah,.int .i64 Ai,.int .i64 Ak,.int .i64 Al,.int .i64 Am,.int .i64 An,.int .i64 Ao]] rfl qAs16_5 ?_;(with_reducible refine (kinds_move_36.calls k3 _ _ Ae Ah Ai Ak Al Am An Ao false _ ?side1 ?side2 A19.out).mono ?_);(case side1=>refine (Kd.R_reads' (e:=44) (base:=w.heap.size) (ok:=fun k_=>k_ ≠ Ab) (n:=Ae.length) (c:=co39) ?_).2.2;exact (by (with_reducible repeat (first|apply Kd.R_alloc|apply Kd.R_drewN|apply Kd.R_drew));exact (Kd.R_mono (Kd.R_far (p:=⟨Ab,6,none⟩) (Kd.R_far (p:=⟨Ab,5,none⟩) (Kd.R_far (p:=⟨Ab,4,none⟩) (Kd.R_far (p:=⟨Ab,3,none⟩) (Kd.R_far (p:=⟨Ab,2,none⟩) (Kd.R_far (p:=⟨Ab,1,none⟩) (Kd.R_far (p:=⟨Ab,0,none⟩) (Kd.R_mono Aa.out (fun k_ hk=>(⟨hk,hk⟩ : _ ∧ k_ ≠ Ab))) (fun _ hk=>hk.2) (.int .i64 Ah)) (fun _ hk=>hk.2) (.int .i64 Ai)) (fun _ hk=>hk.2) (.int .i64 Ak)) (fun _ hk=>hk.2) (.int .i64 Al)) (fun _ hk=>hk.2) (.int .i64 Am)) (fun _ hk=>hk.2) (.int .i64 An)) (fun _ hk=>hk.2) (.int .i64 Ao)) (fun _ h_=>h_.1))));(case side2=>exact (Kd.R_reads' Aa.out).2.1);rintro e w53 ⟨rfl,hb⟩;refine ⟨_,rfl,?_⟩;have n0_:=Aside0.mk (Kd.R_below (by (with_reducible repeat (first|apply Kd.R_alloc|apply Kd.R_drewN|apply Kd.R_drew));exact (Kd.R_mono (Kd.R_far (p:=⟨Ab,6,none⟩) (Kd.R_far (p:=⟨Ab,5,none⟩) (Kd.R_far (p:=⟨Ab,4,none⟩) (Kd.R_far (p:=⟨Ab,3,none⟩) (Kd.R_far (p:=⟨Ab,2,none⟩) (Kd.R_far (p:=⟨Ab,1,none⟩) (Kd.R_far (p:=⟨Ab,0,none⟩) (Kd.R_mono Aa.out (fun k_ hk=>(⟨hk,hk⟩ : _ ∧ k_ ≠ Ab))) (fun _ hk=>hk.2) (.int .i64 Ah)) (fun _ hk=>hk.2) (.int .i64 Ai)) (fun _ hk=>hk.2) (.int .i64 Ak)) (fun _ hk=>hk.2) (.int .i64 Al)) (fun _ hk=>hk.2) (.int .i64 Am)) (fun _ hk=>hk.2) (.int .i64 An)) (fun _ hk=>hk.2) (.int .i64 Ao)) (fun _ h_=>h_.1))) hb);have n1_:=Aside0.mk (blk_below (g:=gb257) (o:=.cells #[.int .i64 a0_0,.int .i64 a0_1,.slice A0_2 l0_2.length c0_2,.int .i64 a0_3,.int .u32 a0_4] 25 (0,0)) (by (with_reducible repeat (first|refine blk_drewN ?_ _|refine blk_drew ?_|refine blk_alloc ?_ _));refine blk_far ?_ Ac.out _;(with_reducible repeat (first|refine blk_drewN ?_ _|refine blk_drew ?_|refine blk_alloc ?_ _));refine blk_far ?_ Ac.out _;(with_reducible repeat (first|refine blk_drewN ?_ _|refine blk_drew ?_|refine blk_alloc ?_ _));refine blk_far ?_ Ac.out _;(with_reducible repeat (first|refine blk_drewN ?_ _|refine blk_drew ?_|refine blk_alloc ?_ _));refine blk_far ?_ Ac.out _;(with_reducible repeat (first|refine blk_drewN ?_ _|refine blk_drew ?_|refine blk_alloc ?_ _));refine blk_far ?_ Ac.out _;(with_reducible repeat (first|refine blk_drewN ?_ _|refine blk_drew ?_|refine blk_alloc ?_ _));refine blk_far ?_ Ac.out _;(with_reducible repeat (first|refine blk_drewN ?_ _|refine blk_drew ?_|refine blk_alloc ?_ _));refine blk_far ?_ Ac.out _;(with_reducible repeat (first|refine blk_drewN ?_ _|refine blk_drew ?_|refine blk_alloc ?_ _));exact BK257.out) hb);have n2_:=Aside0.mk (blk_below (g:=Ab) (o:=.cells #[.int .i64 Ah,.int .i64 Ai,.int .i64 Ak,.int .i64 Al,.int .i64 Am,.int .i64 An,.int .i64 Ao] 44 (0,0)) (by (with_reducible repeat (first|refine blk_drewN ?_ _|refine blk_drew ?_|refine blk_alloc ?_ _));refine blk_put (cs:=#[.int .i64 Ah,.int .i64 Ai,.int .i64 Ak,.int .i64 Al,.int .i64 Am,.int .i64 An,.int .i64 0]) ?_ 6 _ rfl;(with_reducible repeat (first|refine blk_drewN ?_ _|refine blk_drew ?_|refine blk_alloc ?_ _));refine blk_put (cs:=#[.int .i64 Ah,.int .i64 Ai,.int .i64 Ak,.int .i64 Al,.int .i64 Am,.int .i64 0,.int .i64 0]) ?_ 5 _ rfl;(with_reducible repeat (first|refine blk_drewN ?_ _|refine blk_drew ?_|refine blk_alloc ?_ _));refine blk_put (cs:=#[.int .i64 Ah,.int .i64 Ai,.int .i64 Ak,.int .i64 Al,.int .i64 0,.int .i64 0,.int .i64 0]) ?_ 4 _ rfl;(with_reducible repeat (first|refine blk_drewN ?_ _|refine blk_drew ?_|refine blk_alloc ?_ _));refine blk_put (cs:=#[.int .i64 Ah,.int .i64 Ai,.int .i64 Ak,.int .i64 0,.int .i64 0,.int .i64 0,.int .i64 0]) ?_ 3 _ rfl;(with_reducible repeat (first|refine blk_drewN ?_ _|refine blk_drew ?_|refine blk_alloc ?_ _));refine blk_put (cs:=#[.int .i64 Ah,.int .i64 Ai,.int .i64 0,.int .i64 0,.int .i64 0,.int .i64 0,.int .i64 0]) ?_ 2 _ rfl;(with_reducible repeat (first|refine blk_drewN ?_ _|refine blk_drew ?_|refine blk_alloc ?_ _));refine blk_put (cs:=#[.int .i64 Ah,.int .i64 0,.int .i64 0,.int .i64 0,.int .i64 0,.int .i64 0,.int .i64 0]) ?_ 1 _ rfl;(with_reducible repeat (first|refine blk_drewN ?_ _|refine blk_drew ?_|refine blk_alloc ?_ _));refine blk_put (cs:=#[.int .i64 0,.int .i64 0,.int .i64 0,.int .i64 0,.int .i64 0,.int .i64 0,.int .i64 0]) ?_ 0 _ rfl;(with_reducible repeat (first|refine blk_drewN ?_ _|refine blk_drew ?_|refine blk_alloc ?_ _));exact Af.out) hb);have n3_:=Aside0.mk (below_step qBs16_4 hb);clear Aa;clear BK257;clear Af;clear HB;have Aa:=n0_;have BK257:=n1_;have Af:=n2_;have HB:=n3_;clear n0_ n1_ n2_ n3_;(try clear hb);(try clear hb2);(try clear hk);(try clear hi);have hcz54_0 : w53.cell? ⟨Ab,0,none⟩ = some (.int .i64 Ah):=(blk_cell Af.out 0).trans rfl;have hcz54_1 : w53.cell? ⟨Ab,1,none⟩ = some (.int .i64 Ai):=(blk_cell Af.out 1).trans rfl;have hcz54_2 : w53.cell? ⟨Ab,2,none⟩ = some (.int .i64 Ak):=(blk_cell Af.out 2).trans rfl;have hcz54_3 : w53.cell? ⟨Ab,3,none⟩ = some (.int .i64 Al):=(blk_cell Af.out 3).trans rfl;have hcz54_4 : w53.cell? ⟨Ab,4,none⟩ = some (.int .i64 Am):=(blk_cell Af.out 4).trans rfl;have hcz54_5 : w53.cell? ⟨Ab,5,none⟩ = some (.int .i64 An):=(blk_cell Af.out 5).trans rfl;have hcz54_6 : w53.cell? ⟨Ab,6,none⟩ = some (.int .i64 Ao):=(blk_cell Af.out 6).trans rfl;have hfz54_0:=blk_frozen Af.out 0;have hfz54_1:=blk_frozen Af.out 1;have hfz54_2:=blk_frozen Af.out 2;have hfz54_3:=blk_frozen Af.out 3;have hfz54_4:=blk_frozen Af.out 4;have hfz54_5:=blk_frozen Af.out 5;have hfz54_6:=blk_frozen Af.out 6)|((with_reducible refine gate_builtin (b:=.append) (xs:=#[.tmp 40,.tmp 42]) rfl ?_);(try (refine gate_guard (by rfl) ?_;dsimp only));at_builtin;refine Kd.R_append k44 (w0:=w) w.heap.size rfl (.tmp 40) (.tmp 42) 48 44 (.agg #[(.int .i64 0),(.int .i64 0),(.int .i64 0),(.int .i64 0),(.int .i64 0),(.int .i64 0),(.int .i64 0)]) 56 rfl Try.underlying48 info44 rfl (by decide) (by omega) (.slice (some ad268) Ae.length co39) Ae (⟨Ah,Ai,Ak,Al,Am,An,Ao⟩ : S44) [.int .i64 Ah,.int .i64 Ai,.int .i64 Ak,.int .i64 Al,.int .i64 Am,.int .i64 An,.int .i64 Ao] (fun k_=>k_ ≠ Ab) (fun _=>False) rfl rfl ?aP (fun _ hk=>hk.elim) ?aF ?aO ?aB ?aS ?aL ?_;(case aP=>exact k44_mkM _ _ _ (⟨Ah,Ai,Ak,Al,Am,An,Ao⟩ : S44));(case aB=>exact qBs16_4);(case aF=>exact (fun k_ hk=>Kd.freshB (g:=Ab) (o:=.cells #[.int .i64 Ah,.int .i64 Ai,.int .i64 Ak,.int .i64 Al,.int .i64 Am,.int .i64 An,.int .i64 Ao] 44 (0,0)) (qDs16_ Af.out) k_ hk));(case aO=>exact (qRs16_ Aa.out));(case aS=>exact (below_size qBs16_4));(case aL=>have:=LMc37.out;omega);intro v286 w55 ho hb hg hat;rw [← Ny285.out] at ho;have n0_:=Aside0.mk (blk_grown (g:=gb257) (o:=.cells #[.int .i64 a0_0,.int .i64 a0_1,.slice A0_2 l0_2.length c0_2,.int .i64 a0_3,.int .u32 a0_4] 25 (0,0)) (qDs16_ BK257.out) hg (Kd.R_ne Aa.out BK257.out (by decide)));have n1_:=Aside0.mk (blk_grown (g:=Ab) (o:=.cells #[.int .i64 Ah,.int .i64 Ai,.int .i64 Ak,.int .i64 Al,.int .i64 Am,.int .i64 An,.int .i64 Ao] 44 (0,0)) (qDs16_ Af.out) hg (Kd.R_away Aa.out (fun _ hk=>hk)));have n2_:=Aside0.mk (hb);have n3_:=Aside0.mk (ho);clear BK257;clear Af;clear HB;clear Aa;have BK257:=n0_;have Af:=n1_;have HB:=n2_;have HO287:=n3_;clear n0_ n1_ n2_ n3_;clear ho hb hg hat))
             go_roundg k3
             case measure=>have:=HK1.out;have:=HJ7.out;have:=HK3.out;omega
             case rel=>exact ⟨(y285),(wrap64 (Aj + 1)),(by first|rfl|(simp;done)|(simp [*];done)),H',⟨by have:=HK1.out;have:=HJ7.out;have:=HK3.out;omega⟩,⟨by (with_reducible repeat (first|apply Kd.R_alloc|apply Kd.R_drewN|apply Kd.R_drew));exact Kd.R_mono HO287.out (fun _ hk=>trivial)⟩,⟨by (with_reducible repeat (first|refine blk_drewN ?_ _|refine blk_drew ?_|refine blk_alloc ?_ _));exact BK257.out⟩,⟨by repeat (first|(with_reducible first|exact HB.out|apply below_alloc|apply pw_below_drewN|apply below_drew1|refine below_set ?_ GE257.out|refine below_set ?_ Ap.out)|exact HB.out)⟩⟩
            ·rw [if_neg c37] at H
             exact absurd H (by simp)
          ·rw [if_neg c16] at H
           exact absurd H (by simp)
         ·rw [if_neg c15] at H
          exact absurd H (by simp)
        ·rw [if_neg c14] at H
         have c14b0 : decide (Aj < a0_1) = false:=decide_eq_false c14
         clear c14
         have H':=Aside0.mk H
         clear H
         go_wp2
         go_roundg k3
         case measure=>have:=HK1.out;have:=HJ7.out;have:=HK3.out;omega
         case rel=>exact ⟨(Ae),(wrap64 (Ad + 1)),(by first|rfl|(simp;done)|(simp [*];done)),H',⟨by have:=HK1.out;have:=HJ7.out;have:=HK3.out;omega⟩,⟨by (with_reducible repeat (first|apply Kd.R_alloc|apply Kd.R_drewN|apply Kd.R_drew));exact Aa.out⟩,⟨by (with_reducible repeat (first|refine blk_drewN ?_ _|refine blk_drew ?_|refine blk_alloc ?_ _));exact BK257.out⟩,⟨by repeat (first|(with_reducible first|exact HB.out|apply below_alloc|apply pw_below_drewN|apply below_drew1|refine below_set ?_ GE257.out)|exact HB.out)⟩⟩
     ·replace c12:=Bool.eq_false_iff.mpr c12
      subst c12
      have H1 : (some Ay) = some r:=by rw [if_neg (show ¬ (false = true) by decide)] at H;exact H
      clear H
      have H:=H1
      clear H1
      obtain rfl:=Option.some.inj H
      go_wp2
      go_ret
      exact ⟨_,by first|rfl|(simp [errW_none,errW_some] <;> rfl)|(simp [*,errW_none,errW_some] <;> rfl),by (with_reducible repeat (first|apply Kd.R_alloc|apply Kd.R_drewN|apply Kd.R_drew));exact Aa.out,by repeat (first|(with_reducible first|exact HB.out|apply below_alloc|apply pw_below_drewN|apply below_drew1|refine below_set ?_ GE257.out)|exact HB.out)⟩
end Go.Proofs.Yteppbihlpicjpaa.GM
