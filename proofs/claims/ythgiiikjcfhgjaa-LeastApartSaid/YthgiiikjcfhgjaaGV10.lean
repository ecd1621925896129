-- Written by ext.py, a program of this session.
import Derived.Test.YthgiiikjcfhgjaaGV0
import Derived.Test.YthgiiikjcfhgjaaGV6
import Derived.Test.YthgiiikjcfhgjaaGV9
namespace Go.Proofs.Ythgiiikjcfhgjaa.GV
open Go.RowKit Go.Proofs.YthgiiikjcfhgjaaW.PrintWords Go.Proofs.YthgiiikjcfhgjaaW.PrintLast Go.Proofs.YthgiiikjcfhgjaaW.PrintMore
attribute [local go_sem] max2_int min2_int max_two min_two max_three min_three max_four min_four cellIs_set   -- for this text's walks alone
set_option linter.unusedVariables false
set_option linter.unusedSimpArgs false
/-! ### least_Small: function 82 -/
def least_Small.l0 : Nat → List Int → Int → Int → Int → Int → List (List Int) → Int → Int → Int → Int → List (List Int) → Int → Int → Option (Int × Int × (List (List Int)) × Int × Int)
 | 0,_,_,_,_,_,_,_,_,_,_,_,_,_=>none
 | k + 1,x4,x15,x16,x173000,x173001,x173002,x173003,x173004,x188000,x188001,x188002,x188003,x188004=>if x16 < x15 then (if 0 ≤ x16 then (if x16 < (x4.length : Int) then (if 0 ≤ (rd x4 x16) then (least_Small.l0 k x4 x15 (wrap64 (x16 + 1)) x173000 x173001 x173002 x173003 x173004 x188000 x188001 x188002 x188003 (Go.bits .or .u32 x188004 (shl .u32 (Go.bits .and .u32 (shr .u32 x173004 (rd x4 x16)) 1) x16))) else (none)) else (none)) else (none)) else (some (x188000,x188001,x188002,x188003,x188004))
def least_Small.f (k : Nat) (a0_0 : Int) (a0_1 : Int) (l0_2 : List (List Int)) (a0_3 : Int) (a0_4 : Int) : Option (Int × Int × (List (List Int)) × Int × Int):=(least_alike.f k a0_0 a0_1 l0_2 a0_3 a0_4).bind fun t174=>((least_small.f k a0_0 a0_1 l0_2 a0_3 a0_4 t174).bind fun bt177=>(least_Small.l0 k bt177.2.2.2.2.2 (bt177.2.2.2.2.2.length : Int) 0 a0_0 a0_1 l0_2 a0_3 a0_4 bt177.1 bt177.2.1 bt177.2.2.1 bt177.2.2.2.1 bt177.2.2.2.2.1))
theorem least_Small.mono_l : ∀ k,(∀ y0 y1 y2 y3 y4 y5 y6 y7 y8 y9 y10 y11 y12,LeO (least_Small.l0 k y0 y1 y2 y3 y4 y5 y6 y7 y8 y9 y10 y11 y12) (least_Small.l0 (k + 1) y0 y1 y2 y3 y4 y5 y6 y7 y8 y9 y10 y11 y12))
 | 0=>fun _ _ _ _ _ _ _ _ _ _ _ _ _ r h=>by simp [least_Small.l0] at h
 | k + 1=>by
  have ih0:=least_Small.mono_l k
  ·intro y0 y1 y2 y3 y4 y5 y6 y7 y8 y9 y10 y11 y12
   unfold least_Small.l0
   repeat' first
   | (with_reducible exact ih0 _ _ _ _ _ _ _ _ _ _ _ _ _)
   | (with_reducible exact least_alike.mono _ _ _ _ _ _)
   | (with_reducible exact least_small.mono _ _ _ _ _ _ _)
   | (with_reducible exact LeO.refl _)
   | (with_reducible exact LeO.none _)
   | (with_reducible refine LeO.ite ?_ ?_)
   | (with_reducible refine LeO.bind ?_ (fun _=>?_))
   | exact ih0 _ _ _ _ _ _ _ _ _ _ _ _ _
   | exact least_alike.mono _ _ _ _ _ _
   | exact least_small.mono _ _ _ _ _ _ _
   | exact LeO.none _
   | refine LeO.ite ?_ ?_
   | refine LeO.bind ?_ (fun _=>?_)
theorem least_Small.mono : ∀ a0 a1 a2 a3 a4 k,LeO (least_Small.f k a0 a1 a2 a3 a4) (least_Small.f (k + 1) a0 a1 a2 a3 a4):=by
 intro a0 a1 a2 a3 a4 k
 have ih0:=least_Small.mono_l k
 unfold least_Small.f
 repeat' first
   | (with_reducible exact ih0 _ _ _ _ _ _ _ _ _ _ _ _ _)
   | (with_reducible exact least_alike.mono _ _ _ _ _ _)
   | (with_reducible exact least_small.mono _ _ _ _ _ _ _)
   | (with_reducible exact LeO.refl _)
   | (with_reducible exact LeO.none _)
   | (with_reducible refine LeO.ite ?_ ?_)
   | (with_reducible refine LeO.bind ?_ (fun _=>?_))
   | exact ih0 _ _ _ _ _ _ _ _ _ _ _ _ _
   | exact least_alike.mono _ _ _ _ _ _
   | exact least_small.mono _ _ _ _ _ _ _
   | exact LeO.none _
   | refine LeO.ite ?_ ?_
   | refine LeO.bind ?_ (fun _=>?_)
def least_Small.T1 : Bool × List (List Nat × List Nat):=(true,[([],[]),([],[]),([1],[1]),([0,2,2],[0,2]),([3],[3]),([4],[4]),([4],[4]),([],[]),([7,5,3,0,1,2,3,4,5,7],[5,7]),([6,8,0,1,2,3,4,5,6,7,8],[6])])
def least_Small.B1 : List Nat:=[0,0,2,7,15,31,31,0,191,511]
theorem least_Small.tab1 : rtab .any (opsOf Try.f82 1) = least_Small.T1:=by kernel_rfl
theorem least_Small.bits1 : waitsOk least_Small.T1.2 least_Small.B1 = true:=by kernel_rfl
def least_Small.T5 : Bool × List (List Nat × List Nat):=(true,[([],[]),([0],[0]),([],[]),([2],[2]),([],[]),([3,4],[3,4]),([5],[5]),([],[]),([6,7],[6,7]),([1,8],[1,8]),([0,1,2,3,4,5,6,7,8,9],[]),([10,9,0,1,2,3,4,5,6,7,8,9],[9,10])])
def least_Small.B5 : List Nat:=[0,1,0,4,0,28,60,0,252,511,1023,2047]
theorem least_Small.tab5 : rtab .any (opsOf Try.f82 5) = least_Small.T5:=by kernel_rfl
theorem least_Small.bits5 : waitsOk least_Small.T5.2 least_Small.B5 = true:=by kernel_rfl
theorem qDs10_ {p q : Prop} (H : q) (h : q → p:=by intro h_;(with_reducible repeat (first|refine blk_drewN ?_ _|refine blk_drew ?_|refine blk_alloc ?_ _));exact h_) : p:=h H
theorem qRs10_ {p q : Prop} (H : q) (h : q → p:=by intro h_;(with_reducible repeat (first|apply Kd.R_alloc|apply Kd.R_drewN|apply Kd.R_drew));exact h_) : p:=h H
theorem qBs10_2 {p : Prop} (h : p:=by repeat (first|(with_reducible first|exact HB.out|apply below_alloc|apply pw_below_drewN|apply below_drew1)|exact HB.out)) : p:=h
theorem qBs10_3 {p : Prop} (h : p:=by repeat (first|(with_reducible first|exact HB.out|apply below_alloc|apply pw_below_drewN|apply below_drew1|refine below_set ?_ GE172.out)|exact HB.out)) : p:=h
theorem qBs10_4 {p : Prop} (h : p:=by repeat (first|(with_reducible first|exact HB.out|apply below_alloc|apply pw_below_drewN|apply below_drew1|refine below_set ?_ GE172.out|refine below_set ?_ GE173.out)|exact HB.out)) : p:=h
theorem qBs10_5 {p : Prop} (h : p:=by repeat (first|(with_reducible first|exact HB.out|apply below_alloc|apply pw_below_drewN|apply below_drew1|refine below_set ?_ GE172.out|refine below_set ?_ GE173.out|refine below_set ?_ Ao.out)|exact HB.out)) : p:=h
theorem qAs10_6 {p : Prop} (h : p:=by (try simp only [List.map_toArray,List.map_cons,List.map_nil]);first|done|rfl|(simp only [List.length_drop,List.length_take];rfl)) : p:=h
theorem qAs10_7 {p : Prop} (h : p:=by first|(with_reducible assumption)|assumption) : p:=h
set_option maxHeartbeats 8000000 in
set_option maxRecDepth 100000 in
theorem least_Small.calls (k : Nat) (a0_0 : Int) (a0_1 : Int) (A0_2 : Option Addr) (c0_2 : Nat) (l0_2 : List (List Int)) (a0_3 : Int) (a0_4 : Int) (r1 : Int) (r2 : Int) (r3 : List (List Int)) (r4 : Int) (r5 : Int) (w : World) (hr0_2 : Kd.C (Kd.slice 3 (Kd.int .i64)) w A0_2 l0_2.length l0_2) (hc0_2 : l0_2.length ≤ c0_2) (h : least_Small.f k a0_0 a0_1 l0_2 a0_3 a0_4 = some (r1,r2,r3,r4,r5)) :
  Calls Try.prog 82 #[.agg #[.int .i64 a0_0,.int .i64 a0_1,.slice A0_2 l0_2.length c0_2,.int .i64 a0_3,.int .u32 a0_4]] w fun e w'=>∃ v2_ : Value,e = .returned (.agg #[.int .i64 r1,.int .i64 r2,v2_,.int .i64 r4,.int .u32 r5]) ∧ Kd.S (Kd.slice 3 (Kd.int .i64)) 23 w' w.heap.size (fun _=>True) v2_ r3 ∧ Below w.heap.size w w':=by
 have hu63:=Try.underlying63
 have HR0_2:=Aside0.mk hr0_2
 have HC0_2:=Aside0.mk hc0_2
 clear hr0_2 hc0_2
 have HB:=Aside0.mk (Below.refl w.heap.size w)
 have H : ((least_alike.f k a0_0 a0_1 l0_2 a0_3 a0_4).bind fun t174=>((least_small.f k a0_0 a0_1 l0_2 a0_3 a0_4 t174).bind fun bt177=>(least_Small.l0 k bt177.2.2.2.2.2 (bt177.2.2.2.2.2.length : Int) 0 a0_0 a0_1 l0_2 a0_3 a0_4 bt177.1 bt177.2.1 bt177.2.2.1 bt177.2.2.2.1 bt177.2.2.2.2.1))) = some (r1,r2,r3,r4,r5):=h
 clear h
 replace H:=Option.bind_eq_some_iff.mp H
 obtain ⟨t174,A20,H⟩:=H
 replace H : ((least_small.f k a0_0 a0_1 l0_2 a0_3 a0_4 t174).bind fun bt177=>(least_Small.l0 k bt177.2.2.2.2.2 (bt177.2.2.2.2.2.length : Int) 0 a0_0 a0_1 l0_2 a0_3 a0_4 bt177.1 bt177.2.1 bt177.2.2.1 bt177.2.2.2.1 bt177.2.2.2.2.1)) = some (r1,r2,r3,r4,r5):=H
 have A2:=Aside0.mk A20
 clear A20
 replace H:=Option.bind_eq_some_iff.mp H
 obtain ⟨⟨t177,t178,t179,t182,t183,t184⟩,A30,H⟩:=H
 replace H : (least_Small.l0 k t184 (t184.length : Int) 0 a0_0 a0_1 l0_2 a0_3 a0_4 t177 t178 t179 t182 t183) = some (r1,r2,r3,r4,r5):=H
 have A3:=Aside0.mk A30
 clear A30
 have H':=Aside0.mk H
 clear H
 go_enter Try.func82,Try.ntmps82
 try go_wp2_with (first|((with_reducible refine gate_dst (N:=1) rfl ?_);refine box_event ?hg (N:=1) ?hd (cs:=#[.int .i64 a0_0,.int .i64 a0_1,.slice A0_2 l0_2.length c0_2,.int .i64 a0_3,.int .u32 a0_4]) (t:=63) ?hr ?_;(case hd=>rfl);(case hg=>rfl);(case hr=>first|(go_simp;done)|(go_simp;rfl));intro gb172 hg w4 hbox hb;have n0_:=Aside0.mk (below_step qBs10_2 hb);have n1_:=Aside0.mk (hbox);have n2_:=Aside0.mk ((by rw [hg];exact (below_size qBs10_2) : w.heap.size ≤ gb172));have n3_:=Aside0.mk ((by rw [hg];exact (below_size qBs10_2) : w.heap.size ≤ gb172));clear HB;have HB:=n0_;have BK172:=n1_;have GW172:=n2_;have GE172:=n3_;clear n0_ n1_ n2_ n3_;clear hb hbox hg)|((with_reducible refine gate_dst (N:=2) rfl ?_);refine box_event ?hg (N:=2) ?hd (cs:=#[.int .i64 0,.int .i64 0,.slice none 0 0,.int .i64 0,.int .u32 0]) (t:=63) ?hr ?_;(case hd=>rfl);(case hg=>rfl);(case hr=>first|(go_simp;done)|(go_simp;rfl));intro Af hg w5 hbox hb;have n0_:=Aside0.mk (blk_below (g:=gb172) (o:=.cells #[.int .i64 a0_0,.int .i64 a0_1,.slice A0_2 l0_2.length c0_2,.int .i64 a0_3,.int .u32 a0_4] 63 (0,0)) (qDs10_ BK172.out) hb);have n1_:=Aside0.mk (below_step qBs10_3 hb);have n2_:=Aside0.mk (hbox);have n3_:=Aside0.mk ((by rw [hg];exact (below_size qBs10_3) : w.heap.size ≤ Af));have n4_:=Aside0.mk ((by rw [hg];exact (below_size qBs10_3) : w.heap.size ≤ Af));have n5_:=Aside0.mk ((by rw [hg];exact Nat.ne_of_lt (blk_lt (g:=gb172) (o:=.cells #[.int .i64 a0_0,.int .i64 a0_1,.slice A0_2 l0_2.length c0_2,.int .i64 a0_3,.int .u32 a0_4] 63 (0,0)) (qDs10_ BK172.out)) : gb172 ≠ Af));have n6_:=Aside0.mk ((by rw [hg];exact Nat.ne_of_gt (blk_lt (g:=gb172) (o:=.cells #[.int .i64 a0_0,.int .i64 a0_1,.slice A0_2 l0_2.length c0_2,.int .i64 a0_3,.int .u32 a0_4] 63 (0,0)) (qDs10_ BK172.out)) : Af ≠ gb172));clear BK172;clear HB;have BK172:=n0_;have HB:=n1_;have Ac:=n2_;have GW173:=n3_;have GE173:=n4_;have NB172_173:=n5_;have NB173_172:=n6_;clear n0_ n1_ n2_ n3_ n4_ n5_ n6_;clear hb hbox hg))
 have n0_:=Aside0.mk (blk_drew BK172.out)
 have n1_:=Aside0.mk (blk_drew Ac.out)
 have n2_:=Aside0.mk (below_drew1 HB.out)
 clear BK172
 clear Ac
 clear HB
 have BK172:=n0_
 have Ac:=n1_
 have HB:=n2_
 clear n0_ n1_ n2_
 refine start_ (n:=10) (S:=fun w'=>w'.cell? ⟨gb172,0,none⟩ = some (.int .i64 a0_0) ∧ w'.cell? ⟨gb172,1,none⟩ = some (.int .i64 a0_1) ∧ w'.cell? ⟨gb172,2,none⟩ = some (.slice A0_2 l0_2.length c0_2) ∧ w'.cell? ⟨gb172,3,none⟩ = some (.int .i64 a0_3) ∧ w'.cell? ⟨gb172,4,none⟩ = some (.int .u32 a0_4)) (ds:=[]) #[false,false,false,false,false,false,false,false,false,false] (by kernel_rfl) rfl rfl ⟨(blk_cell BK172.out 0).trans rfl,(blk_cell BK172.out 1).trans rfl,(blk_cell BK172.out 2).trans rfl,(blk_cell BK172.out 3).trans rfl,(blk_cell BK172.out 4).trans rfl⟩ (fun hHeld=>?_);refine with_tabW least_Small.tab1 least_Small.bits1 (fun HT_ HW_=>?_)
 generalize w5.drew = w6 at BK172 Ac HB hHeld ⊢
 refine take_ (i:=0) (N:=some 8) (v:=?_) (a':=?_) #[true,false,false,false,false,false,false,false,false,false] rfl rfl (take_ofW HT_.out HW_.out (by kernel_rfl)) (fun _ _ _ h=>h) (Or.inl ⟨by rfl,?_⟩) hHeld ?_ ?_
 rotate_left
 ·rintro w' ⟨s0,s1,s2,s3,s4⟩
  go_simp
  with_reducible rfl
 rotate_left
 ·simp only [Act.put,List.setIfInBounds_toArray,List.set_cons_zero,List.set_cons_succ,i64_w,i32_w]
  rfl
 refine take_ (i:=1) (N:=some 9) (v:=?_) (a':=?_) #[true,true,false,false,false,false,false,false,false,false] rfl rfl (take_ofW HT_.out HW_.out (by kernel_rfl)) (fun _ _ _ h=>h) (Or.inl ⟨by rfl,?_⟩) hHeld ?_ ?_
 rotate_left
 ·rintro w' ⟨s0,s1,s2,s3,s4⟩
  go_simp
  with_reducible rfl
 rotate_left
 ·simp only [Act.put,List.setIfInBounds_toArray,List.set_cons_zero,List.set_cons_succ,i64_w,i32_w]
  rfl
 refine join_ (σ:=Value × Value × Value × Nat) 2 #[true,true,true,true,true,true,true,true,false,false] (fun s_=>[(10,s_.1),(11,.tuple #[.agg #[.int .i64 t177,.int .i64 t178,s_.2.1,.int .i64 t182,.int .u32 t183],s_.2.2.1]),(3,.pointer (some ⟨s_.2.2.2,0,none⟩)),(7,.tuple #[.agg #[.int .i64 t177,.int .i64 t178,s_.2.1,.int .i64 t182,.int .u32 t183],s_.2.2.1]),(12,.agg #[.int .i64 t177,.int .i64 t178,s_.2.1,.int .i64 t182,.int .u32 t183]),(13,s_.2.2.1)]) (fun s_ w'=>(w'.cell? ⟨gb172,0,none⟩ = some (.int .i64 a0_0) ∧ w'.cell? ⟨gb172,1,none⟩ = some (.int .i64 a0_1) ∧ w'.cell? ⟨gb172,2,none⟩ = some (.slice A0_2 l0_2.length c0_2) ∧ w'.cell? ⟨gb172,3,none⟩ = some (.int .i64 a0_3) ∧ w'.cell? ⟨gb172,4,none⟩ = some (.int .u32 a0_4)) ∧ (Kd.R (Kd.int .i64) 3 w' w.heap.size (fun k_=>some k_ ≠ (s_.2.2.1 : Value).ownBlock) s_.1 t174) ∧ (Kd.S (Kd.slice 3 (Kd.int .i64)) 23 w' w.heap.size (fun k_=>some k_ ≠ (s_.1 : Value).ownBlock ∧ some k_ ≠ (s_.2.2.1 : Value).ownBlock) s_.2.1 t179) ∧ (Kd.R (Kd.int .i64) 3 w' w.heap.size (fun k_=>some k_ ≠ (s_.1 : Value).ownBlock) s_.2.2.1 t184) ∧ (w'.heap[gb172]? = some (.cells #[.int .i64 a0_0,.int .i64 a0_1,.slice A0_2 l0_2.length c0_2,.int .i64 a0_3,.int .u32 a0_4] 63 (0,0))) ∧ (w'.heap[Af]? = some (.cells #[.int .i64 0,.int .i64 0,.slice none 0 0,.int .i64 0,.int .u32 0] 63 (0,0))) ∧ (w'.heap[s_.2.2.2]? = some (.cells #[.int .i64 0,.int .i64 0,.slice none 0 0,.int .i64 0,.int .u32 0] 63 (0,0))) ∧ (w.heap.size ≤ s_.2.2.2) ∧ (w.heap.size ≤ s_.2.2.2) ∧ (gb172 ≠ s_.2.2.2) ∧ (s_.2.2.2 ≠ gb172) ∧ (Af ≠ s_.2.2.2) ∧ (s_.2.2.2 ≠ Af) ∧ (Below w.heap.size w w')) ?_ ?_
 rotate_left
 ·intro hCont
  refine two_ (i:=2) (j:=7) (Ni:=some 10) (Nj:=some 3) #[true,true,true,false,false,false,false,false,false,false] #[true,true,false,false,false,false,false,true,false,false] rfl rfl rfl rfl (two_of HT_.out (by kernel_rfl)) (by decide) (by decide) (fun K hK=>?_) (fun K hK=>?_)
  ·skip
   refine goes_ Try.func119 (by kernel_rfl) rfl #[.agg #[.int .i64 a0_0,.int .i64 a0_1,.slice A0_2 l0_2.length c0_2,.int .i64 a0_3,.int .u32 a0_4]] (by rfl) rfl rfl qAs10_6 ?_
   with_reducible refine (least_alike.calls k a0_0 a0_1 _ _ l0_2 a0_3 a0_4 t174 _ ?side1 ?side2 A2.out).mono ?_
   (case side1=>repeat (first|exact (Kd.C_below HR0_2.out HB.out)|(with_reducible refine Kd.C_alloc ?_ _)|(with_reducible refine Kd.C_drewN ?_ _)|(with_reducible refine Kd.C_drew ?_)))
   (case side2=>exact HC0_2.out)
   rintro e w7 ⟨v175,rfl,ho0,hb⟩
   refine ⟨_,rfl,?_⟩
   have n0_:=Aside0.mk (Kd.R_lower ho0 (below_size qBs10_4))
   have n1_:=Aside0.mk (blk_below (g:=gb172) (o:=.cells #[.int .i64 a0_0,.int .i64 a0_1,.slice A0_2 l0_2.length c0_2,.int .i64 a0_3,.int .u32 a0_4] 63 (0,0)) (qDs10_ BK172.out) hb)
   have n2_:=Aside0.mk (blk_below (g:=Af) (o:=.cells #[.int .i64 0,.int .i64 0,.slice none 0 0,.int .i64 0,.int .u32 0] 63 (0,0)) (qDs10_ Ac.out) hb)
   have n3_:=Aside0.mk (below_step qBs10_4 hb)
   clear BK172
   clear Ac
   clear HB
   have Ag:=n0_
   have BK172:=n1_
   have Ac:=n2_
   have HB:=n3_
   clear n0_ n1_ n2_ n3_
   (try clear hb)
   (try clear hb2)
   (try clear hk)
   (try clear hi)
   (try clear ho0)
   obtain ⟨Ao8,co8,eo8⟩:=Kd.R_slice Ag.out
   (first|subst eo8|(injection eo8 with f1_ f2_ f3_;have f4_:=f1_.symm;have f5_:=f3_.symm;clear f1_ f2_ f3_;subst f4_;subst f5_))
   refine hK.out _ _ ⟨(blk_cell BK172.out 0).trans rfl,(blk_cell BK172.out 1).trans rfl,(blk_cell BK172.out 2).trans rfl,(blk_cell BK172.out 3).trans rfl,(blk_cell BK172.out 4).trans rfl⟩ (fun hHeld=>?_)
   clear hK K
   refine norm_ (a':=?_) ?_ ?_
   rotate_left
   ·show Act.put _ (some 10) _ = _
    simp only [Act.put,List.setIfInBounds_toArray,List.set_cons_zero,List.set_cons_succ,i64_w,i32_w]
    rfl
   refine two_ (i:=3) (j:=7) (Ni:=some 11) (Nj:=some 3) #[true,true,true,true,false,false,false,false,false,false] #[true,true,true,false,false,false,false,true,false,false] rfl rfl rfl rfl (two_of HT_.out (by kernel_rfl)) (by decide) (by decide) (fun K hK=>?_) (fun K hK=>?_)
   ·skip
    refine goes_ Try.func118 (by kernel_rfl) rfl #[.agg #[.int .i64 a0_0,.int .i64 a0_1,.slice A0_2 l0_2.length c0_2,.int .i64 a0_3,.int .u32 a0_4],.slice Ao8 t174.length co8] (by rfl) rfl rfl qAs10_6 ?_
    with_reducible refine (least_small.calls k a0_0 a0_1 _ _ l0_2 a0_3 a0_4 _ _ t174 t177 t178 t179 t182 t183 t184 _ ?side1 ?side2 ?side3 ?side4 A3.out).mono ?_
    (case side1=>repeat (first|exact (Kd.C_below HR0_2.out HB.out)|(with_reducible refine Kd.C_alloc ?_ _)|(with_reducible refine Kd.C_drewN ?_ _)|(with_reducible refine Kd.C_drew ?_)))
    (case side2=>exact HC0_2.out)
    (case side3=>repeat (first|exact (Kd.R_reads' Ag.out).2.2|(with_reducible refine Kd.C_alloc ?_ _)|(with_reducible refine Kd.C_drewN ?_ _)|(with_reducible refine Kd.C_drew ?_)))
    (case side4=>exact (Kd.R_reads' Ag.out).2.1)
    rintro e w9 ⟨v180,v185,rfl,ho0,ho1,hb⟩
    refine ⟨_,rfl,?_⟩
    have n0_:=Aside0.mk (Kd.R_elder' (qRs10_ Ag.out) (Kd.R_base ho1) hb)
    have n1_:=Aside0.mk (Kd.S_lower (Kd.S_new' ho0 (Kd.R_lt (qRs10_ Ag.out))) (below_size qBs10_4))
    have n2_:=Aside0.mk (Kd.R_lower (Kd.R_new' ho1 (Kd.R_lt (qRs10_ Ag.out))) (below_size qBs10_4))
    have n3_:=Aside0.mk (blk_below (g:=gb172) (o:=.cells #[.int .i64 a0_0,.int .i64 a0_1,.slice A0_2 l0_2.length c0_2,.int .i64 a0_3,.int .u32 a0_4] 63 (0,0)) (qDs10_ BK172.out) hb)
    have n4_:=Aside0.mk (blk_below (g:=Af) (o:=.cells #[.int .i64 0,.int .i64 0,.slice none 0 0,.int .i64 0,.int .u32 0] 63 (0,0)) (qDs10_ Ac.out) hb)
    have n5_:=Aside0.mk (below_step qBs10_4 hb)
    clear Ag
    clear BK172
    clear Ac
    clear HB
    have Ag:=n0_
    have Am:=n1_
    have An:=n2_
    have BK172:=n3_
    have Ac:=n4_
    have HB:=n5_
    clear n0_ n1_ n2_ n3_ n4_ n5_
    (try clear hb)
    (try clear hb2)
    (try clear hk)
    (try clear hi)
    (try clear ho0)
    (try clear ho1)
    refine hK.out _ _ ⟨(blk_cell BK172.out 0).trans rfl,(blk_cell BK172.out 1).trans rfl,(blk_cell BK172.out 2).trans rfl,(blk_cell BK172.out 3).trans rfl,(blk_cell BK172.out 4).trans rfl⟩ (fun hHeld=>?_)
    clear hK K
    refine norm_ (a':=?_) ?_ ?_
    rotate_left
    ·show Act.put _ (some 11) _ = _
     simp only [Act.put,List.setIfInBounds_toArray,List.set_cons_zero,List.set_cons_succ,i64_w,i32_w]
     rfl
    refine pure_ (i:=4) (N:=some 7) (v:=?_) (a':=?_) #[true,true,true,true,true,false,false,false,false,false] rfl rfl (any_of HT_.out (by kernel_rfl)) (fun _ _ _ h=>h) (Or.inl ⟨by rfl,?_⟩) ?_ ?_
    rotate_left
    ·intro w'
     go_simp
     with_reducible rfl
    rotate_left
    ·simp only [Act.put,List.setIfInBounds_toArray,List.set_cons_zero,List.set_cons_succ,i64_w,i32_w]
     rfl
    refine pure_ (i:=5) (N:=some 12) (v:=?_) (a':=?_) #[true,true,true,true,true,true,false,false,false,false] rfl rfl (any_of HT_.out (by kernel_rfl)) (fun _ _ _ h=>h) (Or.inl ⟨by rfl,?_⟩) ?_ ?_
    rotate_left
    ·intro w'
     go_simp
     with_reducible rfl
    rotate_left
    ·simp only [Act.put,List.setIfInBounds_toArray,List.set_cons_zero,List.set_cons_succ,i64_w,i32_w]
     rfl
    refine pure_ (i:=6) (N:=some 13) (v:=?_) (a':=?_) #[true,true,true,true,true,true,true,false,false,false] rfl rfl (any_of HT_.out (by kernel_rfl)) (fun _ _ _ h=>h) (Or.inl ⟨by rfl,?_⟩) ?_ ?_
    rotate_left
    ·intro w'
     go_simp
     with_reducible rfl
    rotate_left
    ·simp only [Act.put,List.setIfInBounds_toArray,List.set_cons_zero,List.set_cons_succ,i64_w,i32_w]
     rfl
    refine one_ (i:=7) (N:=some 3) #[true,true,true,true,true,true,true,true,false,false] rfl rfl (one_of HT_.out (by kernel_rfl)) (by decide) (fun K hK=>?_)
    refine box_step ?hg (N:=3) ?hd (cs:=#[.int .i64 0,.int .i64 0,.slice none 0 0,.int .i64 0,.int .u32 0]) (t:=63) ?hr ?_;(case hd=>rfl);(case hg=>rfl);(case hr=>first|(go_simp;done)|(go_simp;rfl))
    intro Ab hg w10 hbox hb
    have n0_:=Aside0.mk (Kd.R_below (qRs10_ Ag.out) hb)
    have n1_:=Aside0.mk (Kd.S_below (by (with_reducible repeat (first|apply Kd.S_alloc|apply Kd.S_drewN|apply Kd.S_drew));exact Am.out) hb)
    have n2_:=Aside0.mk (Kd.R_below (qRs10_ An.out) hb)
    have n3_:=Aside0.mk (blk_below (g:=gb172) (o:=.cells #[.int .i64 a0_0,.int .i64 a0_1,.slice A0_2 l0_2.length c0_2,.int .i64 a0_3,.int .u32 a0_4] 63 (0,0)) (qDs10_ BK172.out) hb)
    have n4_:=Aside0.mk (blk_below (g:=Af) (o:=.cells #[.int .i64 0,.int .i64 0,.slice none 0 0,.int .i64 0,.int .u32 0] 63 (0,0)) (qDs10_ Ac.out) hb)
    have n5_:=Aside0.mk (below_step qBs10_4 hb)
    have n6_:=Aside0.mk (hbox)
    have n7_:=Aside0.mk ((by rw [hg];exact (below_size qBs10_4) : w.heap.size ≤ Ab))
    have n8_:=Aside0.mk ((by rw [hg];exact (below_size qBs10_4) : w.heap.size ≤ Ab))
    have n9_:=Aside0.mk ((by rw [hg];exact Nat.ne_of_lt (blk_lt (g:=gb172) (o:=.cells #[.int .i64 a0_0,.int .i64 a0_1,.slice A0_2 l0_2.length c0_2,.int .i64 a0_3,.int .u32 a0_4] 63 (0,0)) (qDs10_ BK172.out)) : gb172 ≠ Ab))
    have n10_:=Aside0.mk ((by rw [hg];exact Nat.ne_of_gt (blk_lt (g:=gb172) (o:=.cells #[.int .i64 a0_0,.int .i64 a0_1,.slice A0_2 l0_2.length c0_2,.int .i64 a0_3,.int .u32 a0_4] 63 (0,0)) (qDs10_ BK172.out)) : Ab ≠ gb172))
    have n11_:=Aside0.mk ((by rw [hg];exact Nat.ne_of_lt (blk_lt (g:=Af) (o:=.cells #[.int .i64 0,.int .i64 0,.slice none 0 0,.int .i64 0,.int .u32 0] 63 (0,0)) (qDs10_ Ac.out)) : Af ≠ Ab))
    have n12_:=Aside0.mk ((by rw [hg];exact Nat.ne_of_gt (blk_lt (g:=Af) (o:=.cells #[.int .i64 0,.int .i64 0,.slice none 0 0,.int .i64 0,.int .u32 0] 63 (0,0)) (qDs10_ Ac.out)) : Ab ≠ Af))
    clear Ag
    clear Am
    clear An
    clear BK172
    clear Ac
    clear HB
    have Ag:=n0_
    have Am:=n1_
    have An:=n2_
    have BK172:=n3_
    have Ac:=n4_
    have HB:=n5_
    have Ad:=n6_
    have Ar:=n7_
    have Ao:=n8_
    have Aa:=n9_
    have Ai:=n10_
    have Ae:=n11_
    have Aj:=n12_
    clear n0_ n1_ n2_ n3_ n4_ n5_ n6_ n7_ n8_ n9_ n10_ n11_ n12_
    clear hb hbox hg
    refine hK.out _ _ ⟨(blk_cell BK172.out 0).trans rfl,(blk_cell BK172.out 1).trans rfl,(blk_cell BK172.out 2).trans rfl,(blk_cell BK172.out 3).trans rfl,(blk_cell BK172.out 4).trans rfl⟩ (fun hHeld=>?_)
    clear hK K
    refine norm_ (a':=?_) ?_ ?_
    rotate_left
    ·show Act.put _ (some 3) _ = _
     simp only [Act.put,List.setIfInBounds_toArray,List.set_cons_zero,List.set_cons_succ,i64_w,i32_w]
     rfl
    exact norm_ (by simp only [putAll,Act.put,List.setIfInBounds_toArray,List.set_cons_zero,List.set_cons_succ]) (hCont (.slice Ao8 t174.length co8,v180,v185,Ab) _ ⟨hHeld,(by (with_reducible repeat (first|apply Kd.R_alloc|apply Kd.R_drewN|apply Kd.R_drew));exact Kd.R_mono Ag.out (fun _ hk=>hk.2)),(by (with_reducible repeat (first|apply Kd.S_alloc|apply Kd.S_drewN|apply Kd.S_drew));exact Kd.S_mono Am.out (fun _ hk=>⟨hk.2,hk.1⟩)),(by (with_reducible repeat (first|apply Kd.R_alloc|apply Kd.R_drewN|apply Kd.R_drew));exact Kd.R_mono An.out (fun _ hk=>hk.2)),(qDs10_ BK172.out),(qDs10_ Ac.out),(qDs10_ Ad.out),Ar.out,Ao.out,Aa.out,Ai.out,Ae.out,Aj.out,qBs10_5⟩)
   ·skip
    refine box_step ?hg (N:=3) ?hd (cs:=#[.int .i64 0,.int .i64 0,.slice none 0 0,.int .i64 0,.int .u32 0]) (t:=63) ?hr ?_;(case hd=>rfl);(case hg=>rfl);(case hr=>first|(go_simp;done)|(go_simp;rfl))
    intro Ab hg w8 hbox hb
    have n0_:=Aside0.mk (Kd.R_below (qRs10_ Ag.out) hb)
    have n1_:=Aside0.mk (blk_below (g:=gb172) (o:=.cells #[.int .i64 a0_0,.int .i64 a0_1,.slice A0_2 l0_2.length c0_2,.int .i64 a0_3,.int .u32 a0_4] 63 (0,0)) (qDs10_ BK172.out) hb)
    have n2_:=Aside0.mk (blk_below (g:=Af) (o:=.cells #[.int .i64 0,.int .i64 0,.slice none 0 0,.int .i64 0,.int .u32 0] 63 (0,0)) (qDs10_ Ac.out) hb)
    have n3_:=Aside0.mk (below_step qBs10_4 hb)
    have n4_:=Aside0.mk (hbox)
    have n5_:=Aside0.mk ((by rw [hg];exact (below_size qBs10_4) : w.heap.size ≤ Ab))
    have n6_:=Aside0.mk ((by rw [hg];exact (below_size qBs10_4) : w.heap.size ≤ Ab))
    have n7_:=Aside0.mk ((by rw [hg];exact Nat.ne_of_lt (blk_lt (g:=gb172) (o:=.cells #[.int .i64 a0_0,.int .i64 a0_1,.slice A0_2 l0_2.length c0_2,.int .i64 a0_3,.int .u32 a0_4] 63 (0,0)) (qDs10_ BK172.out)) : gb172 ≠ Ab))
    have n8_:=Aside0.mk ((by rw [hg];exact Nat.ne_of_gt (blk_lt (g:=gb172) (o:=.cells #[.int .i64 a0_0,.int .i64 a0_1,.slice A0_2 l0_2.length c0_2,.int .i64 a0_3,.int .u32 a0_4] 63 (0,0)) (qDs10_ BK172.out)) : Ab ≠ gb172))
    have n9_:=Aside0.mk ((by rw [hg];exact Nat.ne_of_lt (blk_lt (g:=Af) (o:=.cells #[.int .i64 0,.int .i64 0,.slice none 0 0,.int .i64 0,.int .u32 0] 63 (0,0)) (qDs10_ Ac.out)) : Af ≠ Ab))
    have n10_:=Aside0.mk ((by rw [hg];exact Nat.ne_of_gt (blk_lt (g:=Af) (o:=.cells #[.int .i64 0,.int .i64 0,.slice none 0 0,.int .i64 0,.int .u32 0] 63 (0,0)) (qDs10_ Ac.out)) : Ab ≠ Af))
    clear Ag
    clear BK172
    clear Ac
    clear HB
    have Ag:=n0_
    have BK172:=n1_
    have Ac:=n2_
    have HB:=n3_
    have Ad:=n4_
    have Ar:=n5_
    have Ao:=n6_
    have Aa:=n7_
    have Ai:=n8_
    have Ae:=n9_
    have Aj:=n10_
    clear n0_ n1_ n2_ n3_ n4_ n5_ n6_ n7_ n8_ n9_ n10_
    clear hb hbox hg
    obtain ⟨Ao9,co9,eo9⟩:=Kd.R_slice Ag.out
    (first|subst eo9|(injection eo9 with f1_ f2_ f3_;have f4_:=f1_.symm;have f5_:=f3_.symm;clear f1_ f2_ f3_;subst f4_;subst f5_))
    refine hK.out _ _ ⟨(blk_cell BK172.out 0).trans rfl,(blk_cell BK172.out 1).trans rfl,(blk_cell BK172.out 2).trans rfl,(blk_cell BK172.out 3).trans rfl,(blk_cell BK172.out 4).trans rfl⟩ (fun hHeld=>?_)
    clear hK K
    refine norm_ (a':=?_) ?_ ?_
    rotate_left
    ·show Act.put _ (some 3) _ = _
     simp only [Act.put,List.setIfInBounds_toArray,List.set_cons_zero,List.set_cons_succ,i64_w,i32_w]
     rfl
    refine one_ (i:=3) (N:=some 11) #[true,true,true,true,false,false,false,true,false,false] rfl rfl (one_of HT_.out (by kernel_rfl)) (by decide) (fun K hK=>?_)
    refine goes_ Try.func118 (by kernel_rfl) rfl #[.agg #[.int .i64 a0_0,.int .i64 a0_1,.slice A0_2 l0_2.length c0_2,.int .i64 a0_3,.int .u32 a0_4],.slice Ao9 t174.length co9] (by rfl) rfl rfl qAs10_6 ?_
    with_reducible refine (least_small.calls k a0_0 a0_1 _ _ l0_2 a0_3 a0_4 _ _ t174 t177 t178 t179 t182 t183 t184 _ ?side1 ?side2 ?side3 ?side4 A3.out).mono ?_
    (case side1=>repeat (first|exact (Kd.C_below HR0_2.out HB.out)|(with_reducible refine Kd.C_alloc ?_ _)|(with_reducible refine Kd.C_drewN ?_ _)|(with_reducible refine Kd.C_drew ?_)))
    (case side2=>exact HC0_2.out)
    (case side3=>repeat (first|exact (Kd.R_reads' Ag.out).2.2|(with_reducible refine Kd.C_alloc ?_ _)|(with_reducible refine Kd.C_drewN ?_ _)|(with_reducible refine Kd.C_drew ?_)))
    (case side4=>exact (Kd.R_reads' Ag.out).2.1)
    rintro e w10 ⟨v180,v185,rfl,ho0,ho1,hb⟩
    refine ⟨_,rfl,?_⟩
    have n0_:=Aside0.mk (Kd.R_elder' (qRs10_ Ag.out) (Kd.R_base ho1) hb)
    have n1_:=Aside0.mk (Kd.S_lower (Kd.S_new' ho0 (Kd.R_lt (qRs10_ Ag.out))) (below_size qBs10_5))
    have n2_:=Aside0.mk (Kd.R_lower (Kd.R_new' ho1 (Kd.R_lt (qRs10_ Ag.out))) (below_size qBs10_5))
    have n3_:=Aside0.mk (blk_below (g:=gb172) (o:=.cells #[.int .i64 a0_0,.int .i64 a0_1,.slice A0_2 l0_2.length c0_2,.int .i64 a0_3,.int .u32 a0_4] 63 (0,0)) (qDs10_ BK172.out) hb)
    have n4_:=Aside0.mk (blk_below (g:=Af) (o:=.cells #[.int .i64 0,.int .i64 0,.slice none 0 0,.int .i64 0,.int .u32 0] 63 (0,0)) (qDs10_ Ac.out) hb)
    have n5_:=Aside0.mk (blk_below (g:=Ab) (o:=.cells #[.int .i64 0,.int .i64 0,.slice none 0 0,.int .i64 0,.int .u32 0] 63 (0,0)) (qDs10_ Ad.out) hb)
    have n6_:=Aside0.mk (below_step qBs10_5 hb)
    clear Ag
    clear BK172
    clear Ac
    clear Ad
    clear HB
    have Ag:=n0_
    have Am:=n1_
    have An:=n2_
    have BK172:=n3_
    have Ac:=n4_
    have Ad:=n5_
    have HB:=n6_
    clear n0_ n1_ n2_ n3_ n4_ n5_ n6_
    (try clear hb)
    (try clear hb2)
    (try clear hk)
    (try clear hi)
    (try clear ho0)
    (try clear ho1)
    refine hK.out _ _ ⟨(blk_cell BK172.out 0).trans rfl,(blk_cell BK172.out 1).trans rfl,(blk_cell BK172.out 2).trans rfl,(blk_cell BK172.out 3).trans rfl,(blk_cell BK172.out 4).trans rfl⟩ (fun hHeld=>?_)
    clear hK K
    refine norm_ (a':=?_) ?_ ?_
    rotate_left
    ·show Act.put _ (some 11) _ = _
     simp only [Act.put,List.setIfInBounds_toArray,List.set_cons_zero,List.set_cons_succ,i64_w,i32_w]
     rfl
    refine pure_ (i:=4) (N:=some 7) (v:=?_) (a':=?_) #[true,true,true,true,true,false,false,true,false,false] rfl rfl (any_of HT_.out (by kernel_rfl)) (fun _ _ _ h=>h) (Or.inl ⟨by rfl,?_⟩) ?_ ?_
    rotate_left
    ·intro w'
     go_simp
     with_reducible rfl
    rotate_left
    ·simp only [Act.put,List.setIfInBounds_toArray,List.set_cons_zero,List.set_cons_succ,i64_w,i32_w]
     rfl
    refine pure_ (i:=5) (N:=some 12) (v:=?_) (a':=?_) #[true,true,true,true,true,true,false,true,false,false] rfl rfl (any_of HT_.out (by kernel_rfl)) (fun _ _ _ h=>h) (Or.inl ⟨by rfl,?_⟩) ?_ ?_
    rotate_left
    ·intro w'
     go_simp
     with_reducible rfl
    rotate_left
    ·simp only [Act.put,List.setIfInBounds_toArray,List.set_cons_zero,List.set_cons_succ,i64_w,i32_w]
     rfl
    refine pure_ (i:=6) (N:=some 13) (v:=?_) (a':=?_) #[true,true,true,true,true,true,true,true,false,false] rfl rfl (any_of HT_.out (by kernel_rfl)) (fun _ _ _ h=>h) (Or.inl ⟨by rfl,?_⟩) ?_ ?_
    rotate_left
    ·intro w'
     go_simp
     with_reducible rfl
    rotate_left
    ·simp only [Act.put,List.setIfInBounds_toArray,List.set_cons_zero,List.set_cons_succ,i64_w,i32_w]
     rfl
    exact norm_ (by simp only [putAll,Act.put,List.setIfInBounds_toArray,List.set_cons_zero,List.set_cons_succ]) (hCont (.slice Ao9 t174.length co9,v180,v185,Ab) _ ⟨hHeld,(by (with_reducible repeat (first|apply Kd.R_alloc|apply Kd.R_drewN|apply Kd.R_drew));exact Kd.R_mono Ag.out (fun _ hk=>hk.2)),(by (with_reducible repeat (first|apply Kd.S_alloc|apply Kd.S_drewN|apply Kd.S_drew));exact Kd.S_mono Am.out (fun _ hk=>⟨hk.2,hk.1⟩)),(by (with_reducible repeat (first|apply Kd.R_alloc|apply Kd.R_drewN|apply Kd.R_drew));exact Kd.R_mono An.out (fun _ hk=>hk.2)),(qDs10_ BK172.out),(qDs10_ Ac.out),(qDs10_ Ad.out),Ar.out,Ao.out,Aa.out,Ai.out,Ae.out,Aj.out,qBs10_5⟩)
  ·skip
   refine box_step ?hg (N:=3) ?hd (cs:=#[.int .i64 0,.int .i64 0,.slice none 0 0,.int .i64 0,.int .u32 0]) (t:=63) ?hr ?_;(case hd=>rfl);(case hg=>rfl);(case hr=>first|(go_simp;done)|(go_simp;rfl))
   intro Ab hg w7 hbox hb
   have n0_:=Aside0.mk (blk_below (g:=gb172) (o:=.cells #[.int .i64 a0_0,.int .i64 a0_1,.slice A0_2 l0_2.length c0_2,.int .i64 a0_3,.int .u32 a0_4] 63 (0,0)) (qDs10_ BK172.out) hb)
   have n1_:=Aside0.mk (blk_below (g:=Af) (o:=.cells #[.int .i64 0,.int .i64 0,.slice none 0 0,.int .i64 0,.int .u32 0] 63 (0,0)) (qDs10_ Ac.out) hb)
   have n2_:=Aside0.mk (below_step qBs10_4 hb)
   have n3_:=Aside0.mk (hbox)
   have n4_:=Aside0.mk ((by rw [hg];exact (below_size qBs10_4) : w.heap.size ≤ Ab))
   have n5_:=Aside0.mk ((by rw [hg];exact (below_size qBs10_4) : w.heap.size ≤ Ab))
   have n6_:=Aside0.mk ((by rw [hg];exact Nat.ne_of_lt (blk_lt (g:=gb172) (o:=.cells #[.int .i64 a0_0,.int .i64 a0_1,.slice A0_2 l0_2.length c0_2,.int .i64 a0_3,.int .u32 a0_4] 63 (0,0)) (qDs10_ BK172.out)) : gb172 ≠ Ab))
   have n7_:=Aside0.mk ((by rw [hg];exact Nat.ne_of_gt (blk_lt (g:=gb172) (o:=.cells #[.int .i64 a0_0,.int .i64 a0_1,.slice A0_2 l0_2.length c0_2,.int .i64 a0_3,.int .u32 a0_4] 63 (0,0)) (qDs10_ BK172.out)) : Ab ≠ gb172))
   have n8_:=Aside0.mk ((by rw [hg];exact Nat.ne_of_lt (blk_lt (g:=Af) (o:=.cells #[.int .i64 0,.int .i64 0,.slice none 0 0,.int .i64 0,.int .u32 0] 63 (0,0)) (qDs10_ Ac.out)) : Af ≠ Ab))
   have n9_:=Aside0.mk ((by rw [hg];exact Nat.ne_of_gt (blk_lt (g:=Af) (o:=.cells #[.int .i64 0,.int .i64 0,.slice none 0 0,.int .i64 0,.int .u32 0] 63 (0,0)) (qDs10_ Ac.out)) : Ab ≠ Af))
   clear BK172
   clear Ac
   clear HB
   have BK172:=n0_
   have Ac:=n1_
   have HB:=n2_
   have Ad:=n3_
   have Ar:=n4_
   have Ao:=n5_
   have Aa:=n6_
   have Ai:=n7_
   have Ae:=n8_
   have Aj:=n9_
   clear n0_ n1_ n2_ n3_ n4_ n5_ n6_ n7_ n8_ n9_
   clear hb hbox hg
   refine hK.out _ _ ⟨(blk_cell BK172.out 0).trans rfl,(blk_cell BK172.out 1).trans rfl,(blk_cell BK172.out 2).trans rfl,(blk_cell BK172.out 3).trans rfl,(blk_cell BK172.out 4).trans rfl⟩ (fun hHeld=>?_)
   clear hK K
   refine norm_ (a':=?_) ?_ ?_
   rotate_left
   ·show Act.put _ (some 3) _ = _
    simp only [Act.put,List.setIfInBounds_toArray,List.set_cons_zero,List.set_cons_succ,i64_w,i32_w]
    rfl
   refine one_ (i:=2) (N:=some 10) #[true,true,true,false,false,false,false,true,false,false] rfl rfl (one_of HT_.out (by kernel_rfl)) (by decide) (fun K hK=>?_)
   refine goes_ Try.func119 (by kernel_rfl) rfl #[.agg #[.int .i64 a0_0,.int .i64 a0_1,.slice A0_2 l0_2.length c0_2,.int .i64 a0_3,.int .u32 a0_4]] (by rfl) rfl rfl qAs10_6 ?_
   with_reducible refine (least_alike.calls k a0_0 a0_1 _ _ l0_2 a0_3 a0_4 t174 _ ?side1 ?side2 A2.out).mono ?_
   (case side1=>repeat (first|exact (Kd.C_below HR0_2.out HB.out)|(with_reducible refine Kd.C_alloc ?_ _)|(with_reducible refine Kd.C_drewN ?_ _)|(with_reducible refine Kd.C_drew ?_)))
   (case side2=>exact HC0_2.out)
   rintro e w8 ⟨v175,rfl,ho0,hb⟩
   refine ⟨_,rfl,?_⟩
   have n0_:=Aside0.mk (Kd.R_lower ho0 (below_size qBs10_5))
   have n1_:=Aside0.mk (blk_below (g:=gb172) (o:=.cells #[.int .i64 a0_0,.int .i64 a0_1,.slice A0_2 l0_2.length c0_2,.int .i64 a0_3,.int .u32 a0_4] 63 (0,0)) (qDs10_ BK172.out) hb)
   have n2_:=Aside0.mk (blk_below (g:=Af) (o:=.cells #[.int .i64 0,.int .i64 0,.slice none 0 0,.int .i64 0,.int .u32 0] 63 (0,0)) (qDs10_ Ac.out) hb)
   have n3_:=Aside0.mk (blk_below (g:=Ab) (o:=.cells #[.int .i64 0,.int .i64 0,.slice none 0 0,.int .i64 0,.int .u32 0] 63 (0,0)) (qDs10_ Ad.out) hb)
   have n4_:=Aside0.mk (below_step qBs10_5 hb)
   clear BK172
   clear Ac
   clear Ad
   clear HB
   have Ag:=n0_
   have BK172:=n1_
   have Ac:=n2_
   have Ad:=n3_
   have HB:=n4_
   clear n0_ n1_ n2_ n3_ n4_
   (try clear hb)
   (try clear hb2)
   (try clear hk)
   (try clear hi)
   (try clear ho0)
   obtain ⟨Ao9,co9,eo9⟩:=Kd.R_slice Ag.out
   (first|subst eo9|(injection eo9 with f1_ f2_ f3_;have f4_:=f1_.symm;have f5_:=f3_.symm;clear f1_ f2_ f3_;subst f4_;subst f5_))
   refine hK.out _ _ ⟨(blk_cell BK172.out 0).trans rfl,(blk_cell BK172.out 1).trans rfl,(blk_cell BK172.out 2).trans rfl,(blk_cell BK172.out 3).trans rfl,(blk_cell BK172.out 4).trans rfl⟩ (fun hHeld=>?_)
   clear hK K
   refine norm_ (a':=?_) ?_ ?_
   rotate_left
   ·show Act.put _ (some 10) _ = _
    simp only [Act.put,List.setIfInBounds_toArray,List.set_cons_zero,List.set_cons_succ,i64_w,i32_w]
    rfl
   refine one_ (i:=3) (N:=some 11) #[true,true,true,true,false,false,false,true,false,false] rfl rfl (one_of HT_.out (by kernel_rfl)) (by decide) (fun K hK=>?_)
   refine goes_ Try.func118 (by kernel_rfl) rfl #[.agg #[.int .i64 a0_0,.int .i64 a0_1,.slice A0_2 l0_2.length c0_2,.int .i64 a0_3,.int .u32 a0_4],.slice Ao9 t174.length co9] (by rfl) rfl rfl qAs10_6 ?_
   with_reducible refine (least_small.calls k a0_0 a0_1 _ _ l0_2 a0_3 a0_4 _ _ t174 t177 t178 t179 t182 t183 t184 _ ?side1 ?side2 ?side3 ?side4 A3.out).mono ?_
   (case side1=>repeat (first|exact (Kd.C_below HR0_2.out HB.out)|(with_reducible refine Kd.C_alloc ?_ _)|(with_reducible refine Kd.C_drewN ?_ _)|(with_reducible refine Kd.C_drew ?_)))
   (case side2=>exact HC0_2.out)
   (case side3=>repeat (first|exact (Kd.R_reads' Ag.out).2.2|(with_reducible refine Kd.C_alloc ?_ _)|(with_reducible refine Kd.C_drewN ?_ _)|(with_reducible refine Kd.C_drew ?_)))
   (case side4=>exact (Kd.R_reads' Ag.out).2.1)
   rintro e w10 ⟨v180,v185,rfl,ho0,ho1,hb⟩
   refine ⟨_,rfl,?_⟩
   have n0_:=Aside0.mk (Kd.R_elder' (qRs10_ Ag.out) (Kd.R_base ho1) hb)
   have n1_:=Aside0.mk (Kd.S_lower (Kd.S_new' ho0 (Kd.R_lt (qRs10_ Ag.out))) (below_size qBs10_5))
   have n2_:=Aside0.mk (Kd.R_lower (Kd.R_new' ho1 (Kd.R_lt (qRs10_ Ag.out))) (below_size qBs10_5))
   have n3_:=Aside0.mk (blk_below (g:=gb172) (o:=.cells #[.int .i64 a0_0,.int .i64 a0_1,.slice A0_2 l0_2.length c0_2,.int .i64 a0_3,.int .u32 a0_4] 63 (0,0)) (qDs10_ BK172.out) hb)
   have n4_:=Aside0.mk (blk_below (g:=Af) (o:=.cells #[.int .i64 0,.int .i64 0,.slice none 0 0,.int .i64 0,.int .u32 0] 63 (0,0)) (qDs10_ Ac.out) hb)
   have n5_:=Aside0.mk (blk_below (g:=Ab) (o:=.cells #[.int .i64 0,.int .i64 0,.slice none 0 0,.int .i64 0,.int .u32 0] 63 (0,0)) (qDs10_ Ad.out) hb)
   have n6_:=Aside0.mk (below_step qBs10_5 hb)
   clear Ag
   clear BK172
   clear Ac
   clear Ad
   clear HB
   have Ag:=n0_
   have Am:=n1_
   have An:=n2_
   have BK172:=n3_
   have Ac:=n4_
   have Ad:=n5_
   have HB:=n6_
   clear n0_ n1_ n2_ n3_ n4_ n5_ n6_
   (try clear hb)
   (try clear hb2)
   (try clear hk)
   (try clear hi)
   (try clear ho0)
   (try clear ho1)
   refine hK.out _ _ ⟨(blk_cell BK172.out 0).trans rfl,(blk_cell BK172.out 1).trans rfl,(blk_cell BK172.out 2).trans rfl,(blk_cell BK172.out 3).trans rfl,(blk_cell BK172.out 4).trans rfl⟩ (fun hHeld=>?_)
   clear hK K
   refine norm_ (a':=?_) ?_ ?_
   rotate_left
   ·show Act.put _ (some 11) _ = _
    simp only [Act.put,List.setIfInBounds_toArray,List.set_cons_zero,List.set_cons_succ,i64_w,i32_w]
    rfl
   refine pure_ (i:=4) (N:=some 7) (v:=?_) (a':=?_) #[true,true,true,true,true,false,false,true,false,false] rfl rfl (any_of HT_.out (by kernel_rfl)) (fun _ _ _ h=>h) (Or.inl ⟨by rfl,?_⟩) ?_ ?_
   rotate_left
   ·intro w'
    go_simp
    with_reducible rfl
   rotate_left
   ·simp only [Act.put,List.setIfInBounds_toArray,List.set_cons_zero,List.set_cons_succ,i64_w,i32_w]
    rfl
   refine pure_ (i:=5) (N:=some 12) (v:=?_) (a':=?_) #[true,true,true,true,true,true,false,true,false,false] rfl rfl (any_of HT_.out (by kernel_rfl)) (fun _ _ _ h=>h) (Or.inl ⟨by rfl,?_⟩) ?_ ?_
   rotate_left
   ·intro w'
    go_simp
    with_reducible rfl
   rotate_left
   ·simp only [Act.put,List.setIfInBounds_toArray,List.set_cons_zero,List.set_cons_succ,i64_w,i32_w]
    rfl
   refine pure_ (i:=6) (N:=some 13) (v:=?_) (a':=?_) #[true,true,true,true,true,true,true,true,false,false] rfl rfl (any_of HT_.out (by kernel_rfl)) (fun _ _ _ h=>h) (Or.inl ⟨by rfl,?_⟩) ?_ ?_
   rotate_left
   ·intro w'
    go_simp
    with_reducible rfl
   rotate_left
   ·simp only [Act.put,List.setIfInBounds_toArray,List.set_cons_zero,List.set_cons_succ,i64_w,i32_w]
    rfl
   exact norm_ (by simp only [putAll,Act.put,List.setIfInBounds_toArray,List.set_cons_zero,List.set_cons_succ]) (hCont (.slice Ao9 t174.length co9,v180,v185,Ab) _ ⟨hHeld,(by (with_reducible repeat (first|apply Kd.R_alloc|apply Kd.R_drewN|apply Kd.R_drew));exact Kd.R_mono Ag.out (fun _ hk=>hk.2)),(by (with_reducible repeat (first|apply Kd.S_alloc|apply Kd.S_drewN|apply Kd.S_drew));exact Kd.S_mono Am.out (fun _ hk=>⟨hk.2,hk.1⟩)),(by (with_reducible repeat (first|apply Kd.R_alloc|apply Kd.R_drewN|apply Kd.R_drew));exact Kd.R_mono An.out (fun _ hk=>hk.2)),(qDs10_ BK172.out),(qDs10_ Ac.out),(qDs10_ Ad.out),Ar.out,Ao.out,Aa.out,Ai.out,Ae.out,Aj.out,qBs10_5⟩)
 rintro ⟨v175,v180,v185,Ab⟩ w11 ⟨hS_,h0_,h1_,h2_,h3_,h4_,h5_,h6_,h7_,h8_,h9_,h10_,h11_,h12_⟩
 have n0_ : Aside0 (Kd.R (Kd.int .i64) 3 w11 w.heap.size (fun k_=>some k_ ≠ (v185 : Value).ownBlock) v175 t174):=⟨h0_⟩
 have n1_ : Aside0 (Kd.S (Kd.slice 3 (Kd.int .i64)) 23 w11 w.heap.size (fun k_=>some k_ ≠ (v175 : Value).ownBlock ∧ some k_ ≠ (v185 : Value).ownBlock) v180 t179):=⟨h1_⟩
 have n2_ : Aside0 (Kd.R (Kd.int .i64) 3 w11 w.heap.size (fun k_=>some k_ ≠ (v175 : Value).ownBlock) v185 t184):=⟨h2_⟩
 have n3_ : Aside0 (w11.heap[gb172]? = some (.cells #[.int .i64 a0_0,.int .i64 a0_1,.slice A0_2 l0_2.length c0_2,.int .i64 a0_3,.int .u32 a0_4] 63 (0,0))):=⟨h3_⟩
 have n4_ : Aside0 (w11.heap[Af]? = some (.cells #[.int .i64 0,.int .i64 0,.slice none 0 0,.int .i64 0,.int .u32 0] 63 (0,0))):=⟨h4_⟩
 have n5_ : Aside0 (w11.heap[Ab]? = some (.cells #[.int .i64 0,.int .i64 0,.slice none 0 0,.int .i64 0,.int .u32 0] 63 (0,0))):=⟨h5_⟩
 have n6_ : Aside0 (w.heap.size ≤ Ab):=⟨h6_⟩
 have n7_ : Aside0 (w.heap.size ≤ Ab):=⟨h7_⟩
 have n8_ : Aside0 (gb172 ≠ Ab):=⟨h8_⟩
 have n9_ : Aside0 (Ab ≠ gb172):=⟨h9_⟩
 have n10_ : Aside0 (Af ≠ Ab):=⟨h10_⟩
 have n11_ : Aside0 (Ab ≠ Af):=⟨h11_⟩
 have n12_ : Aside0 (Below w.heap.size w w11):=⟨h12_⟩
 clear BK172
 clear Ac
 clear HB
 clear h0_ h1_ h2_ h3_ h4_ h5_ h6_ h7_ h8_ h9_ h10_ h11_ h12_
 have Ag:=n0_
 have Am:=n1_
 have An:=n2_
 have BK172:=n3_
 have Ac:=n4_
 have Ad:=n5_
 have Ar:=n6_
 have Ao:=n7_
 have Aa:=n8_
 have Ai:=n9_
 have Ae:=n10_
 have Aj:=n11_
 have HB:=n12_
 clear n0_ n1_ n2_ n3_ n4_ n5_ n6_ n7_ n8_ n9_ n10_ n11_ n12_
 have hHeld : w11.cell? ⟨gb172,0,none⟩ = some (.int .i64 a0_0) ∧ w11.cell? ⟨gb172,1,none⟩ = some (.int .i64 a0_1) ∧ w11.cell? ⟨gb172,2,none⟩ = some (.slice A0_2 l0_2.length c0_2) ∧ w11.cell? ⟨gb172,3,none⟩ = some (.int .i64 a0_3) ∧ w11.cell? ⟨gb172,4,none⟩ = some (.int .u32 a0_4):=hS_
 obtain ⟨Ap,Aq,eo14⟩:=Kd.S_slice Am.out
 (first|subst eo14|(injection eo14 with f1_ f2_ f3_;have f4_:=f1_.symm;have f5_:=f3_.symm;clear f1_ f2_ f3_;subst f4_;subst f5_))
 refine norm_ (a':=?_) ?_ ?_
 rotate_left
 ·simp only [putAll,Act.put,List.setIfInBounds_toArray,List.set_cons_zero,List.set_cons_succ]
  rfl
 refine one_ (i:=8) (N:=none) #[true,true,true,true,true,true,true,true,true,false] rfl rfl (one_of HT_.out (by kernel_rfl)) (by decide) (fun K hK=>?_)
 have hs12 : w11.cell? ⟨Ab,0,none⟩ = some (.int .i64 0):=(blk_cell Ad.out 0).trans rfl
 have hfs12:=blk_frozen Ad.out 0
 have hns12_0:=Aa.out
 have hns12_1:=Ae.out
 have hms12_0:=Ai.out
 have hms12_1:=Aj.out
 have hs13 : w11.cell? ⟨Ab,1,none⟩ = some (.int .i64 0):=(blk_cell Ad.out 1).trans rfl
 have hfs13:=blk_frozen Ad.out 1
 have hns13_0:=Aa.out
 have hns13_1:=Ae.out
 have hms13_0:=Ai.out
 have hms13_1:=Aj.out
 have hs15 : w11.cell? ⟨Ab,2,none⟩ = some (.slice none 0 0):=(blk_cell Ad.out 2).trans rfl
 have hfs15:=blk_frozen Ad.out 2
 have hns15_0:=Aa.out
 have hns15_1:=Ae.out
 have hms15_0:=Ai.out
 have hms15_1:=Aj.out
 have hs16 : w11.cell? ⟨Ab,3,none⟩ = some (.int .i64 0):=(blk_cell Ad.out 3).trans rfl
 have hfs16:=blk_frozen Ad.out 3
 have hns16_0:=Aa.out
 have hns16_1:=Ae.out
 have hms16_0:=Ai.out
 have hms16_1:=Aj.out
 have hs17 : w11.cell? ⟨Ab,4,none⟩ = some (.int .u32 0):=(blk_cell Ad.out 4).trans rfl
 have hfs17:=blk_frozen Ad.out 4
 have hns17_0:=Aa.out
 have hns17_1:=Ae.out
 have hms17_0:=Ai.out
 have hms17_1:=Aj.out
 refine skip_ (w1:=?_) (by rfl) rfl ?_ ?_
 rotate_left
 ·go_simp
  rfl
 refine hK.out _ _ ⟨((cell_far (p:=⟨Ab,_,none⟩) Aa.out _).trans (((cell_far (p:=⟨Ab,_,none⟩) Aa.out _).trans (((cell_far (p:=⟨Ab,_,none⟩) Aa.out _).trans (((cell_far (p:=⟨Ab,_,none⟩) Aa.out _).trans (((cell_far (p:=⟨Ab,_,none⟩) Aa.out _).trans (hHeld.1)))))))))),((cell_far (p:=⟨Ab,_,none⟩) Aa.out _).trans (((cell_far (p:=⟨Ab,_,none⟩) Aa.out _).trans (((cell_far (p:=⟨Ab,_,none⟩) Aa.out _).trans (((cell_far (p:=⟨Ab,_,none⟩) Aa.out _).trans (((cell_far (p:=⟨Ab,_,none⟩) Aa.out _).trans (hHeld.2.1)))))))))),((cell_far (p:=⟨Ab,_,none⟩) Aa.out _).trans (((cell_far (p:=⟨Ab,_,none⟩) Aa.out _).trans (((cell_far (p:=⟨Ab,_,none⟩) Aa.out _).trans (((cell_far (p:=⟨Ab,_,none⟩) Aa.out _).trans (((cell_far (p:=⟨Ab,_,none⟩) Aa.out _).trans (hHeld.2.2.1)))))))))),((cell_far (p:=⟨Ab,_,none⟩) Aa.out _).trans (((cell_far (p:=⟨Ab,_,none⟩) Aa.out _).trans (((cell_far (p:=⟨Ab,_,none⟩) Aa.out _).trans (((cell_far (p:=⟨Ab,_,none⟩) Aa.out _).trans (((cell_far (p:=⟨Ab,_,none⟩) Aa.out _).trans (hHeld.2.2.2.1)))))))))),((cell_far (p:=⟨Ab,_,none⟩) Aa.out _).trans (((cell_far (p:=⟨Ab,_,none⟩) Aa.out _).trans (((cell_far (p:=⟨Ab,_,none⟩) Aa.out _).trans (((cell_far (p:=⟨Ab,_,none⟩) Aa.out _).trans (((cell_far (p:=⟨Ab,_,none⟩) Aa.out _).trans (hHeld.2.2.2.2))))))))))⟩ (fun hHeld=>?_)
 clear hK K
 refine pure_ (i:=9) (N:=some 4) (v:=?_) (a':=?_) #[true,true,true,true,true,true,true,true,true,true] rfl rfl (any_of HT_.out (by kernel_rfl)) (fun _ _ _ h=>h) (Or.inl ⟨by rfl,?_⟩) ?_ ?_
 rotate_left
 ·intro w'
  go_simp
  with_reducible rfl
 rotate_left
 ·simp only [Act.put,List.setIfInBounds_toArray,List.set_cons_zero,List.set_cons_succ,i64_w,i32_w]
  rfl
 refine done_ (done_of HT_.out (by kernel_rfl)) ?_
 obtain ⟨Ao18,co18,eo18⟩:=Kd.R_slice An.out
 subst eo18
 try go_wp2
 go_loopg [16] k (fun kq v16 w'=>∃ (Ak : Int) (Ah : Int),v16 = .int .i64 Ak ∧ Aside0 (least_Small.l0 kq t184 (t184.length : Int) Ak a0_0 a0_1 l0_2 a0_3 a0_4 t177 t178 t179 t182 Ah = some (r1,r2,r3,r4,r5)) ∧ Aside0 (kq ≤ k) ∧ Aside0 (Kd.R (Kd.int .i64) 3 w' w.heap.size (fun _=>True) (.slice Ao18 t184.length co18) t184) ∧ Aside0 (Kd.S (Kd.slice 3 (Kd.int .i64)) 23 w' w.heap.size (fun k_=>some k_ ≠ ((.slice Ao18 t184.length co18) : Value).ownBlock) (.slice Ap t179.length Aq) t179) ∧ Aside0 (w'.heap[gb172]? = some (.cells #[.int .i64 a0_0,.int .i64 a0_1,(.slice A0_2 l0_2.length c0_2),.int .i64 a0_3,.int .u32 a0_4] 63 (0,0))) ∧ Aside0 (w'.heap[Af]? = some (.cells #[.int .i64 0,.int .i64 0,(.slice none 0 0),.int .i64 0,.int .u32 0] 63 (0,0))) ∧ Aside0 (w'.heap[Ab]? = some (.cells #[.int .i64 t177,.int .i64 t178,(.slice Ap t179.length Aq),.int .i64 t182,.int .u32 Ah] 63 (0,0))) ∧ Aside0 (Below w.heap.size w w'))
 case atStart=>exact ⟨(0),(t183),(by first|rfl|(simp;done)|(simp [*];done)),H',⟨Nat.le_refl _⟩,⟨by (with_reducible repeat (first|apply Kd.R_alloc|apply Kd.R_drewN|apply Kd.R_drew));exact Kd.R_mono (Kd.R_far (p:=⟨Ab,4,none⟩) (Kd.R_far (p:=⟨Ab,3,none⟩) (Kd.R_far (p:=⟨Ab,2,none⟩) (Kd.R_far (p:=⟨Ab,1,none⟩) (Kd.R_far (p:=⟨Ab,0,none⟩) (Kd.R_types An.out Ad.out (by decide)) (fun _ hk=>hk.2) (.int .i64 t177)) (fun _ hk=>hk.2) (.int .i64 t178)) (fun _ hk=>hk.2) (.slice Ap t179.length Aq)) (fun _ hk=>hk.2) (.int .i64 t182)) (fun _ hk=>hk.2) (.int .u32 t183)) (fun _ hk=>trivial)⟩,⟨by (with_reducible repeat (first|apply Kd.S_alloc|apply Kd.S_drewN|apply Kd.S_drew));exact Kd.S_mono (Kd.S_far (p:=⟨Ab,4,none⟩) (Kd.S_far (p:=⟨Ab,3,none⟩) (Kd.S_far (p:=⟨Ab,2,none⟩) (Kd.S_far (p:=⟨Ab,1,none⟩) (Kd.S_far (p:=⟨Ab,0,none⟩) (Kd.S_types Am.out Ad.out (by decide)) (fun _ hk=>hk.2) (.int .i64 t177)) (fun _ hk=>hk.2) (.int .i64 t178)) (fun _ hk=>hk.2) (.slice Ap t179.length Aq)) (fun _ hk=>hk.2) (.int .i64 t182)) (fun _ hk=>hk.2) (.int .u32 t183)) (fun _ hk=>hk.1.2)⟩,⟨by (with_reducible repeat (first|refine blk_drewN ?_ _|refine blk_drew ?_|refine blk_alloc ?_ _));refine blk_far ?_ Aa.out _;(with_reducible repeat (first|refine blk_drewN ?_ _|refine blk_drew ?_|refine blk_alloc ?_ _));refine blk_far ?_ Aa.out _;(with_reducible repeat (first|refine blk_drewN ?_ _|refine blk_drew ?_|refine blk_alloc ?_ _));refine blk_far ?_ Aa.out _;(with_reducible repeat (first|refine blk_drewN ?_ _|refine blk_drew ?_|refine blk_alloc ?_ _));refine blk_far ?_ Aa.out _;(with_reducible repeat (first|refine blk_drewN ?_ _|refine blk_drew ?_|refine blk_alloc ?_ _));refine blk_far ?_ Aa.out _;(with_reducible repeat (first|refine blk_drewN ?_ _|refine blk_drew ?_|refine blk_alloc ?_ _));exact BK172.out⟩,⟨by (with_reducible repeat (first|refine blk_drewN ?_ _|refine blk_drew ?_|refine blk_alloc ?_ _));refine blk_far ?_ Ae.out _;(with_reducible repeat (first|refine blk_drewN ?_ _|refine blk_drew ?_|refine blk_alloc ?_ _));refine blk_far ?_ Ae.out _;(with_reducible repeat (first|refine blk_drewN ?_ _|refine blk_drew ?_|refine blk_alloc ?_ _));refine blk_far ?_ Ae.out _;(with_reducible repeat (first|refine blk_drewN ?_ _|refine blk_drew ?_|refine blk_alloc ?_ _));refine blk_far ?_ Ae.out _;(with_reducible repeat (first|refine blk_drewN ?_ _|refine blk_drew ?_|refine blk_alloc ?_ _));refine blk_far ?_ Ae.out _;(with_reducible repeat (first|refine blk_drewN ?_ _|refine blk_drew ?_|refine blk_alloc ?_ _));exact Ac.out⟩,⟨by (with_reducible repeat (first|refine blk_drewN ?_ _|refine blk_drew ?_|refine blk_alloc ?_ _));refine blk_put (cs:=#[.int .i64 t177,.int .i64 t178,.slice Ap t179.length Aq,.int .i64 t182,.int .u32 0]) ?_ 4 _ rfl;(with_reducible repeat (first|refine blk_drewN ?_ _|refine blk_drew ?_|refine blk_alloc ?_ _));refine blk_put (cs:=#[.int .i64 t177,.int .i64 t178,.slice Ap t179.length Aq,.int .i64 0,.int .u32 0]) ?_ 3 _ rfl;(with_reducible repeat (first|refine blk_drewN ?_ _|refine blk_drew ?_|refine blk_alloc ?_ _));refine blk_put (cs:=#[.int .i64 t177,.int .i64 t178,.slice none 0 0,.int .i64 0,.int .u32 0]) ?_ 2 _ rfl;(with_reducible repeat (first|refine blk_drewN ?_ _|refine blk_drew ?_|refine blk_alloc ?_ _));refine blk_put (cs:=#[.int .i64 t177,.int .i64 0,.slice none 0 0,.int .i64 0,.int .u32 0]) ?_ 1 _ rfl;(with_reducible repeat (first|refine blk_drewN ?_ _|refine blk_drew ?_|refine blk_alloc ?_ _));refine blk_put (cs:=#[.int .i64 0,.int .i64 0,.slice none 0 0,.int .i64 0,.int .u32 0]) ?_ 0 _ rfl;(with_reducible repeat (first|refine blk_drewN ?_ _|refine blk_drew ?_|refine blk_alloc ?_ _));exact Ad.out⟩,⟨by repeat (first|(with_reducible first|exact HB.out|apply below_alloc|apply pw_below_drewN|apply below_drew1|refine below_set ?_ GE172.out|refine below_set ?_ GE173.out|refine below_set ?_ Ao.out)|exact HB.out)⟩⟩
 case round =>
  clear H'
  try clear c1
  try clear p2
  try clear c8
  try clear c11
  obtain ⟨Ak,Ah,rfl,HA,HK1,HO_4,Al,BK172,Ac,Ad,HB⟩:=hrel
  cases gk with
  | zero=>exact absurd HA.out (by simp [least_Small.l0])
  | succ k1 =>
   have H:=HA.out
   clear HA
   simp only [least_Small.l0] at H
   by_cases c19 : Ak < (t184.length : Int)
   ·rw [if_pos c19] at H
    have c19b0 : decide (Ak < (t184.length : Int)) = true:=decide_eq_true c19
    clear c19
    by_cases c20 : 0 ≤ Ak
    ·rw [if_pos c20] at H
     have c20b0 : decide (0 ≤ Ak) = true:=decide_eq_true c20
     clear c20
     by_cases c21 : Ak < (t184.length : Int)
     ·rw [if_pos c21] at H
      have c21b0 : decide (Ak < (t184.length : Int)) = true:=decide_eq_true c21
      clear c21
      by_cases c22 : 0 ≤ (rd t184 Ak)
      ·rw [if_pos c22] at H
       have c22b0:=eq_true c22
       have c22b1 : decide (0 ≤ (rd t184 Ak)) = true:=decide_eq_true c22
       clear c22
       obtain ⟨ji23,hji23⟩ : ∃ j_ : Int,(shr .u32 a0_4 (rd t184 Ak)) = j_:=⟨_,rfl⟩
       replace H : (least_Small.l0 k1 t184 (t184.length : Int) (wrap64 (Ak + 1)) a0_0 a0_1 l0_2 a0_3 a0_4 t177 t178 t179 t182 (Go.bits .or .u32 Ah (shl .u32 (Go.bits .and .u32 (ji23) 1) Ak))) = some (r1,r2,r3,r4,r5):=by first|(rw [hji23] at H;exact H)|(simp only [hji23] at H ⊢;exact H)
       have hji23_ : (a0_4 / 2 ^ min (rd t184 Ak).toNat 32) = ji23:=hji23
       have hji23z : (rd t184 Ak) ≤ 32 → (a0_4 / 2 ^ (rd t184 Ak).toNat) = ji23:=shr_small hji23
       have c24b0:=eq_true (of_decide_eq_true qAs10_7 : 0 ≤ Ak)
       obtain ⟨ji25,hji25⟩ : ∃ j_ : Int,(shl .u32 (Go.bits .and .u32 (ji23) 1) Ak) = j_:=⟨_,rfl⟩
       replace H : (least_Small.l0 k1 t184 (t184.length : Int) (wrap64 (Ak + 1)) a0_0 a0_1 l0_2 a0_3 a0_4 t177 t178 t179 t182 (Go.bits .or .u32 Ah (ji25))) = some (r1,r2,r3,r4,r5):=by first|(rw [hji25] at H;exact H)|(simp only [hji25] at H ⊢;exact H)
       have hji25_ : (IntKind.u32.wrap ((Go.bits .and .u32 (ji23) 1) * 2 ^ min Ak.toNat 32)) = ji25:=hji25
       have hji25z : Ak ≤ 32 → (IntKind.u32.wrap ((Go.bits .and .u32 (ji23) 1) * 2 ^ Ak.toNat)) = ji25:=shl_small hji25
       have H':=Aside0.mk H
       clear H
       have p188 : 0 ≤ (Ak : Int):=of_decide_eq_true qAs10_7
       have q188 : Ak < (t184.length : Int):=of_decide_eq_true qAs10_7
       obtain ⟨ad188,e188,hx188_0⟩:=Kd.at_int (Kd.R_reads' HO_4.out).2.2 Ak p188 q188
       cases e188
       replace p188:=eq_true p188
       replace q188:=eq_true q188
       try go_wp2
       have n0_:=Aside0.mk (Kd.R_drew HO_4.out)
       have n1_:=Aside0.mk (Kd.S_drew Al.out)
       have n2_:=Aside0.mk (blk_drew BK172.out)
       have n3_:=Aside0.mk (blk_drew Ac.out)
       have n4_:=Aside0.mk (blk_drew Ad.out)
       have n5_:=Aside0.mk (below_drew1 HB.out)
       clear HO_4
       clear Al
       clear BK172
       clear Ac
       clear Ad
       clear HB
       have HO_4:=n0_
       have Al:=n1_
       have BK172:=n2_
       have Ac:=n3_
       have Ad:=n4_
       have HB:=n5_
       clear n0_ n1_ n2_ n3_ n4_ n5_
       refine start_ (n:=12) (S:=fun w'=>w'.cell? ⟨Ab,0,none⟩ = some (.int .i64 t177) ∧ w'.cell? ⟨Ab,1,none⟩ = some (.int .i64 t178) ∧ w'.cell? ⟨Ab,2,none⟩ = some (.slice Ap t179.length Aq) ∧ w'.cell? ⟨Ab,3,none⟩ = some (.int .i64 t182) ∧ w'.cell? ⟨Ab,4,none⟩ = some (.int .u32 Ah) ∧ w'.cell? ⟨gb172,0,none⟩ = some (.int .i64 a0_0) ∧ w'.cell? ⟨gb172,1,none⟩ = some (.int .i64 a0_1) ∧ w'.cell? ⟨gb172,2,none⟩ = some (.slice A0_2 l0_2.length c0_2) ∧ w'.cell? ⟨gb172,3,none⟩ = some (.int .i64 a0_3) ∧ w'.cell? ⟨gb172,4,none⟩ = some (.int .u32 a0_4)) (ds:=[11]) #[false,false,false,false,false,false,false,false,false,false,false,false] (by kernel_rfl) rfl rfl ⟨(blk_cell Ad.out 0).trans rfl,(blk_cell Ad.out 1).trans rfl,(blk_cell Ad.out 2).trans rfl,(blk_cell Ad.out 3).trans rfl,(blk_cell Ad.out 4).trans rfl,(blk_cell BK172.out 0).trans rfl,(blk_cell BK172.out 1).trans rfl,(blk_cell BK172.out 2).trans rfl,(blk_cell BK172.out 3).trans rfl,(blk_cell BK172.out 4).trans rfl⟩ (fun hHeld=>?_);refine with_tabW least_Small.tab5 least_Small.bits5 (fun HT_ HW_=>?_)
       generalize wr.drew = w26 at HO_4 Al BK172 Ac Ad HB hHeld ⊢
       refine pure_ (i:=0) (N:=some 21) (v:=?_) (a':=?_) #[true,false,false,false,false,false,false,false,false,false,false,false] rfl rfl (any_of HT_.out (by kernel_rfl)) (fun _ _ _ h=>h) (Or.inl ⟨by rfl,?_⟩) ?_ ?_
       rotate_left
       ·intro w'
        go_simp
        with_reducible rfl
       rotate_left
       ·simp only [Act.put,List.setIfInBounds_toArray,List.set_cons_zero,List.set_cons_succ,i64_w,i32_w]
        rfl
       refine pure_ (i:=2) (N:=some 23) (v:=?_) (a':=?_) #[true,false,true,false,false,false,false,false,false,false,false,false] rfl rfl (any_of HT_.out (by kernel_rfl)) (fun _ _ _ h=>h) (Or.inl ⟨by rfl,?_⟩) ?_ ?_
       rotate_left
       ·intro w'
        go_simp
        with_reducible rfl
       rotate_left
       ·simp only [Act.put,List.setIfInBounds_toArray,List.set_cons_zero,List.set_cons_succ,i64_w,i32_w]
        rfl
       refine pure_ (i:=4) (N:=some 25) (v:=?_) (a':=?_) #[true,false,true,false,true,false,false,false,false,false,false,false] rfl rfl (any_of HT_.out (by kernel_rfl)) (fun _ _ _ h=>h) (Or.inl ⟨by rfl,?_⟩) ?_ ?_
       rotate_left
       ·intro w'
        go_simp
        with_reducible rfl
       rotate_left
       ·simp only [Act.put,List.setIfInBounds_toArray,List.set_cons_zero,List.set_cons_succ,i64_w,i32_w]
        rfl
       refine pure_ (i:=7) (N:=some 28) (v:=?_) (a':=?_) #[true,false,true,false,true,false,false,true,false,false,false,false] rfl rfl (any_of HT_.out (by kernel_rfl)) (fun _ _ _ h=>h) (Or.inl ⟨by rfl,?_⟩) ?_ ?_
       rotate_left
       ·intro w'
        go_simp
        with_reducible rfl
       rotate_left
       ·simp only [Act.put,List.setIfInBounds_toArray,List.set_cons_zero,List.set_cons_succ,i64_w,i32_w]
        rfl
       refine take_ (i:=1) (N:=some 22) (v:=?_) (a':=?_) #[true,true,true,false,true,false,false,true,false,false,false,false] rfl rfl (take_ofW HT_.out HW_.out (by kernel_rfl)) (fun _ _ _ h=>h) (Or.inl ⟨by rfl,?_⟩) hHeld ?_ ?_
       rotate_left
       ·rintro w' ⟨s0,s1,s2,s3,s4,s5,s6,s7,s8,s9⟩
        go_simp
        with_reducible rfl
       rotate_left
       ·simp only [Act.put,List.setIfInBounds_toArray,List.set_cons_zero,List.set_cons_succ,i64_w,i32_w]
        rfl
       refine take_ (i:=3) (N:=some 24) (v:=?_) (a':=?_) #[true,true,true,true,true,false,false,true,false,false,false,false] rfl rfl (take_ofW HT_.out HW_.out (by kernel_rfl)) (fun _ _ _ h=>h) (Or.inl ⟨by rfl,?_⟩) hHeld ?_ ?_
       rotate_left
       ·rintro w' ⟨s0,s1,s2,s3,s4,s5,s6,s7,s8,s9⟩
        go_simp
        with_reducible rfl
       rotate_left
       ·simp only [Act.put,List.setIfInBounds_toArray,List.set_cons_zero,List.set_cons_succ,i64_w,i32_w]
        rfl
       refine pure_ (i:=5) (N:=some 26) (v:=?_) (a':=?_) #[true,true,true,true,true,true,false,true,false,false,false,false] rfl rfl (any_of HT_.out (by kernel_rfl)) (fun _ _ _ h=>h) (Or.inl ⟨by rfl,?_⟩) ?_ ?_
       rotate_left
       ·intro w'
        go_simp
        with_reducible rfl
       rotate_left
       ·simp only [Act.put,List.setIfInBounds_toArray,List.set_cons_zero,List.set_cons_succ,i64_w,i32_w]
        rfl
       refine pure_ (i:=6) (N:=some 27) (v:=?_) (a':=?_) #[true,true,true,true,true,true,true,true,false,false,false,false] rfl rfl (any_of HT_.out (by kernel_rfl)) (fun _ _ _ h=>h) (Or.inl ⟨by rfl,?_⟩) ?_ ?_
       rotate_left
       ·intro w'
        go_simp
        with_reducible rfl
       rotate_left
       ·simp only [Act.put,List.setIfInBounds_toArray,List.set_cons_zero,List.set_cons_succ,i64_w,i32_w]
        rfl
       refine pure_ (i:=8) (N:=some 29) (v:=?_) (a':=?_) #[true,true,true,true,true,true,true,true,true,false,false,false] rfl rfl (any_of HT_.out (by kernel_rfl)) (fun _ _ _ h=>h) (Or.inl ⟨by rfl,?_⟩) ?_ ?_
       rotate_left
       ·intro w'
        go_simp
        with_reducible rfl
       rotate_left
       ·simp only [Act.put,List.setIfInBounds_toArray,List.set_cons_zero,List.set_cons_succ,i64_w,i32_w]
        rfl
       refine pure_ (i:=9) (N:=some 30) (v:=?_) (a':=?_) #[true,true,true,true,true,true,true,true,true,true,false,false] rfl rfl (any_of HT_.out (by kernel_rfl)) (fun _ _ _ h=>h) (Or.inl ⟨by rfl,?_⟩) ?_ ?_
       rotate_left
       ·intro w'
        go_simp
        with_reducible rfl
       rotate_left
       ·simp only [Act.put,List.setIfInBounds_toArray,List.set_cons_zero,List.set_cons_succ,i64_w,i32_w]
        rfl
       refine pure_ (i:=10) (N:=some 31) (v:=?_) (a':=?_) #[true,true,true,true,true,true,true,true,true,true,true,false] rfl rfl (any_of HT_.out (by kernel_rfl)) (fun _ _ _ h=>h) (Or.inl ⟨by rfl,?_⟩) ?_ ?_
       rotate_left
       ·intro w'
        go_simp
        with_reducible rfl
       rotate_left
       ·simp only [Act.put,List.setIfInBounds_toArray,List.set_cons_zero,List.set_cons_succ,i64_w,i32_w]
        rfl
       refine last_ (i:=11) (N:=none) #[true,true,true,true,true,true,true,true,true,true,true,true] rfl rfl (one_of HT_.out (by kernel_rfl)) (by decide) (fun K hK=>?_)
       have hs27 : w26.cell? ⟨Ab,4,none⟩ = some (.int .u32 Ah):=(blk_cell Ad.out 4).trans rfl
       have hfs27:=blk_frozen Ad.out 4
       have hns27_0:=Aa.out
       have hns27_1:=Ae.out
       have hms27_0:=Ai.out
       have hms27_1:=Aj.out
       refine skip_ (w1:=?_) (by rfl) rfl ?_ ?_
       rotate_left
       ·go_simp
        rfl
       refine hK.out _ _ ?_
       clear hK K
       refine done_ (done_of HT_.out (by kernel_rfl)) ?_
       try go_wp2
       first|go_roundg k1|((simp only [← hji23,← hji25]);go_roundg k1)
       case measure=>have:=HK1.out;omega
       case rel=>exact ⟨(wrap64 (Ak + 1)),(Go.bits .or .u32 Ah (ji25)),(by first|rfl|(simp;done)|(simp [*];done)),(by first|exact H'|((simp only [hji23,hji25]);exact H')|(have h_:=H'.out;simp only [← hji23,← hji25] at h_ ⊢;exact ⟨h_⟩)),⟨by have:=HK1.out;omega⟩,⟨by (with_reducible repeat (first|apply Kd.R_alloc|apply Kd.R_drewN|apply Kd.R_drew));exact Kd.R_mono (Kd.R_far (p:=⟨Ab,4,none⟩) (Kd.R_types HO_4.out Ad.out (by decide)) (fun _ hk=>hk.2) (.int .u32 (Go.bits .or .u32 Ah (ji25)))) (fun _ hk=>trivial)⟩,⟨by (with_reducible repeat (first|apply Kd.S_alloc|apply Kd.S_drewN|apply Kd.S_drew));exact Kd.S_mono (Kd.S_far (p:=⟨Ab,4,none⟩) (Kd.S_types Al.out Ad.out (by decide)) (fun _ hk=>hk.2) (.int .u32 (Go.bits .or .u32 Ah (ji25)))) (fun _ hk=>hk.1)⟩,⟨by (with_reducible repeat (first|refine blk_drewN ?_ _|refine blk_drew ?_|refine blk_alloc ?_ _));refine blk_far ?_ Aa.out _;(with_reducible repeat (first|refine blk_drewN ?_ _|refine blk_drew ?_|refine blk_alloc ?_ _));(first|exact BK172.out|(have h_:=BK172.out;simp only [← hji23,← hji25] at h_;exact h_))⟩,⟨by (with_reducible repeat (first|refine blk_drewN ?_ _|refine blk_drew ?_|refine blk_alloc ?_ _));refine blk_far ?_ Ae.out _;(with_reducible repeat (first|refine blk_drewN ?_ _|refine blk_drew ?_|refine blk_alloc ?_ _));(first|exact Ac.out|(have h_:=Ac.out;simp only [← hji23,← hji25] at h_;exact h_))⟩,⟨by (with_reducible repeat (first|refine blk_drewN ?_ _|refine blk_drew ?_|refine blk_alloc ?_ _));refine blk_put (cs:=#[.int .i64 t177,.int .i64 t178,.slice Ap t179.length Aq,.int .i64 t182,.int .u32 Ah]) ?_ 4 _ rfl;(with_reducible repeat (first|refine blk_drewN ?_ _|refine blk_drew ?_|refine blk_alloc ?_ _));(first|exact Ad.out|(have h_:=Ad.out;simp only [← hji23,← hji25] at h_;exact h_))⟩,⟨by repeat (first|(with_reducible first|exact HB.out|apply below_alloc|apply pw_below_drewN|apply below_drew1|refine below_set ?_ GE172.out|refine below_set ?_ GE173.out|refine below_set ?_ Ao.out)|exact HB.out)⟩⟩
      ·rw [if_neg c22] at H
       exact absurd H (by simp)
     ·rw [if_neg c21] at H
      exact absurd H (by simp)
    ·rw [if_neg c20] at H
     exact absurd H (by simp)
   ·rw [if_neg c19] at H
    have c19b0 : decide (Ak < (t184.length : Int)) = false:=decide_eq_false c19
    clear c19
    simp only [Option.some.injEq,Prod.mk.injEq] at H
    obtain ⟨rfl,rfl,rfl,rfl,rfl⟩:=H
    have hnb28:=Ai.out
    have hnc28:=Aa.out
    have hnb29:=Aj.out
    have hnc29:=Ae.out
    have hcz30_0 : wr.cell? ⟨Ab,0,none⟩ = some (.int .i64 t177):=(blk_cell Ad.out 0).trans rfl
    have hcz30_1 : wr.cell? ⟨Ab,1,none⟩ = some (.int .i64 t178):=(blk_cell Ad.out 1).trans rfl
    have hcz30_2 : wr.cell? ⟨Ab,2,none⟩ = some (.slice Ap t179.length Aq):=(blk_cell Ad.out 2).trans rfl
    have hcz30_3 : wr.cell? ⟨Ab,3,none⟩ = some (.int .i64 t182):=(blk_cell Ad.out 3).trans rfl
    have hcz30_4 : wr.cell? ⟨Ab,4,none⟩ = some (.int .u32 Ah):=(blk_cell Ad.out 4).trans rfl
    have hfz30_0:=blk_frozen Ad.out 0
    have hfz30_1:=blk_frozen Ad.out 1
    have hfz30_2:=blk_frozen Ad.out 2
    have hfz30_3:=blk_frozen Ad.out 3
    have hfz30_4:=blk_frozen Ad.out 4
    have hnb31:=NB173_172.out
    have hnc31:=NB172_173.out
    have hcz32_0 : wr.cell? ⟨Af,0,none⟩ = some (.int .i64 0):=(blk_cell Ac.out 0).trans rfl
    have hcz32_1 : wr.cell? ⟨Af,1,none⟩ = some (.int .i64 0):=(blk_cell Ac.out 1).trans rfl
    have hcz32_2 : wr.cell? ⟨Af,2,none⟩ = some (.slice none 0 0):=(blk_cell Ac.out 2).trans rfl
    have hcz32_3 : wr.cell? ⟨Af,3,none⟩ = some (.int .i64 0):=(blk_cell Ac.out 3).trans rfl
    have hcz32_4 : wr.cell? ⟨Af,4,none⟩ = some (.int .u32 0):=(blk_cell Ac.out 4).trans rfl
    have hfz32_0:=blk_frozen Ac.out 0
    have hfz32_1:=blk_frozen Ac.out 1
    have hfz32_2:=blk_frozen Ac.out 2
    have hfz32_3:=blk_frozen Ac.out 3
    have hfz32_4:=blk_frozen Ac.out 4
    go_wp2
    refine bodyPost_ret (results_cell_row rfl _ _ Af 63 #[.int .i64 t177,.int .i64 t178,.slice Ap t179.length Aq,.int .i64 t182,.int .u32 Ah] (0,0) _ rfl (by (with_reducible repeat (first|refine blk_drewN ?_ _|refine blk_drew ?_|refine blk_alloc ?_ _));refine blk_put (cs:=#[.int .i64 t177,.int .i64 t178,.slice Ap t179.length Aq,.int .i64 t182,.int .u32 0]) ?_ 4 _ rfl;(with_reducible repeat (first|refine blk_drewN ?_ _|refine blk_drew ?_|refine blk_alloc ?_ _));refine blk_put (cs:=#[.int .i64 t177,.int .i64 t178,.slice Ap t179.length Aq,.int .i64 0,.int .u32 0]) ?_ 3 _ rfl;(with_reducible repeat (first|refine blk_drewN ?_ _|refine blk_drew ?_|refine blk_alloc ?_ _));refine blk_put (cs:=#[.int .i64 t177,.int .i64 t178,.slice none 0 0,.int .i64 0,.int .u32 0]) ?_ 2 _ rfl;(with_reducible repeat (first|refine blk_drewN ?_ _|refine blk_drew ?_|refine blk_alloc ?_ _));refine blk_put (cs:=#[.int .i64 t177,.int .i64 0,.slice none 0 0,.int .i64 0,.int .u32 0]) ?_ 1 _ rfl;(with_reducible repeat (first|refine blk_drewN ?_ _|refine blk_drew ?_|refine blk_alloc ?_ _));refine blk_put (cs:=#[.int .i64 0,.int .i64 0,.slice none 0 0,.int .i64 0,.int .u32 0]) ?_ 0 _ rfl;(with_reducible repeat (first|refine blk_drewN ?_ _|refine blk_drew ?_|refine blk_alloc ?_ _));exact Ac.out) Try.underlying63 rfl (by kernel_rfl)) rfl ?_
    exact ⟨_,by first|rfl|(simp [errW_none,errW_some] <;> rfl)|(simp [*,errW_none,errW_some] <;> rfl),by (with_reducible repeat (first|apply Kd.S_alloc|apply Kd.S_drewN|apply Kd.S_drew));exact Kd.S_mono (Kd.S_far (p:=⟨Af,4,none⟩) (Kd.S_far (p:=⟨Af,3,none⟩) (Kd.S_far (p:=⟨Af,2,none⟩) (Kd.S_far (p:=⟨Af,1,none⟩) (Kd.S_far (p:=⟨Af,0,none⟩) (Kd.S_types Al.out Ac.out (by decide)) (fun _ hk=>hk.2) (.int .i64 t177)) (fun _ hk=>hk.2) (.int .i64 t178)) (fun _ hk=>hk.2) (.slice Ap t179.length Aq)) (fun _ hk=>hk.2) (.int .i64 t182)) (fun _ hk=>hk.2) (.int .u32 Ah)) (fun _ hk=>trivial),by repeat (first|(with_reducible first|exact HB.out|apply below_alloc|apply pw_below_drewN|apply below_drew1|refine below_set ?_ GE172.out|refine below_set ?_ GE173.out|refine below_set ?_ Ao.out)|exact HB.out)⟩
end Go.Proofs.Ythgiiikjcfhgjaa.GV
