-- Written by ext.py, a program of this session.
import Derived.Test.YteppbihlpicjpaaGM0
import Derived.Test.YteppbihlpicjpaaGM17
namespace Go.Proofs.Yteppbihlpicjpaa.GM
open Go.RowKit Go.Proofs.YteppbihlpicjpaaW.PrintWords Go.Proofs.YteppbihlpicjpaaW.PrintLast Go.Proofs.YteppbihlpicjpaaW.PrintMore
attribute [local go_sem] max2_int min2_int max_two min_two max_three min_three max_four min_four cellIs_set   -- for this text's walks alone
set_option linter.unusedVariables false
set_option linter.unusedSimpArgs false
/-! ### kinds_Size: function 9 -/
def kinds_Size.f (k : Nat) (a0_0 : Int) (a0_1 : Int) (l0_2 : List (List Int)) (a0_3 : Int) (a0_4 : Int) : Option (Int × Int):=(kinds_kinds.f k a0_0 a0_1 l0_2 a0_3 a0_4).bind fun bt323=>(some ((bt323.1.length : Int),bt323.2))
theorem kinds_Size.mono : ∀ a0 a1 a2 a3 a4 k,LeO (kinds_Size.f k a0 a1 a2 a3 a4) (kinds_Size.f (k + 1) a0 a1 a2 a3 a4):=by
 intro a0 a1 a2 a3 a4 k
 unfold kinds_Size.f
 repeat' first
   | (with_reducible exact kinds_kinds.mono _ _ _ _ _ _)
   | (with_reducible exact LeO.refl _)
   | (with_reducible exact LeO.none _)
   | (with_reducible refine LeO.ite ?_ ?_)
   | (with_reducible refine LeO.bind ?_ (fun _=>?_))
   | exact kinds_kinds.mono _ _ _ _ _ _
   | exact LeO.none _
   | refine LeO.ite ?_ ?_
   | refine LeO.bind ?_ (fun _=>?_)
set_option maxHeartbeats 8000000 in
set_option maxRecDepth 100000 in
theorem kinds_Size.calls (k : Nat) (a0_0 : Int) (a0_1 : Int) (A0_2 : Option Addr) (c0_2 : Nat) (l0_2 : List (List Int)) (a0_3 : Int) (a0_4 : Int) (r1 : Int) (r2 : Int) (w : World) (hr0_2 : Kd.C (Kd.slice 3 (Kd.int .i64)) w A0_2 l0_2.length l0_2) (hc0_2 : l0_2.length ≤ c0_2) (h : kinds_Size.f k a0_0 a0_1 l0_2 a0_3 a0_4 = some (r1,r2)) :
  Calls Try.prog 9 #[.agg #[.int .i64 a0_0,.int .i64 a0_1,.slice A0_2 l0_2.length c0_2,.int .i64 a0_3,.int .u32 a0_4]] w fun e w'=>e = .returned (.tuple #[.int .i64 r1,.int .i64 r2]) ∧ Below w.heap.size w w':=by
 have hu25:=Try.underlying25
 have HR0_2:=Aside0.mk hr0_2
 have HC0_2:=Aside0.mk hc0_2
 clear hr0_2 hc0_2
 have HB:=Aside0.mk (Below.refl w.heap.size w)
 have H : ((kinds_kinds.f k a0_0 a0_1 l0_2 a0_3 a0_4).bind fun bt323=>(some ((bt323.1.length : Int),bt323.2))) = some (r1,r2):=h
 clear h
 replace H:=Option.bind_eq_some_iff.mp H
 obtain ⟨⟨t323,t326⟩,A20,H⟩:=H
 replace H : (some ((t323.length : Int),t326)) = some (r1,r2):=H
 have A2:=Aside0.mk A20
 clear A20
 simp only [Option.some.injEq,Prod.mk.injEq] at H
 obtain ⟨rfl,rfl⟩:=H
 go_enter Try.func9,Try.ntmps9
 go_wp2_with (first|((with_reducible refine gate_dst (N:=1) rfl ?_);refine box_event ?hg (N:=1) ?hd (cs:=#[.int .i64 a0_0,.int .i64 a0_1,.slice A0_2 l0_2.length c0_2,.int .i64 a0_3,.int .u32 a0_4]) (t:=25) ?hr ?_;(case hd=>rfl);(case hg=>rfl);(case hr=>first|(go_simp;done)|(go_simp;rfl));intro gb322 hg w3 hbox hb;have n0_:=Aside0.mk (below_step (by repeat (first|(with_reducible first|exact HB.out|apply below_alloc|apply pw_below_drewN|apply below_drew1)|exact HB.out)) hb);have n1_:=Aside0.mk (hbox);have n2_:=Aside0.mk ((by rw [hg];exact (below_size (by repeat (first|(with_reducible first|exact HB.out|apply below_alloc|apply pw_below_drewN|apply below_drew1)|exact HB.out))) : w.heap.size ≤ gb322));have n3_:=Aside0.mk ((by rw [hg];exact (below_size (by repeat (first|(with_reducible first|exact HB.out|apply below_alloc|apply pw_below_drewN|apply below_drew1)|exact HB.out))) : w.heap.size ≤ gb322));clear HB;have HB:=n0_;have BK322:=n1_;have GW322:=n2_;have GE322:=n3_;clear n0_ n1_ n2_ n3_;clear hb hbox hg;have hcz4_0 : w3.cell? ⟨gb322,0,none⟩ = some (.int .i64 a0_0):=(blk_cell BK322.out 0).trans rfl;have hcz4_1 : w3.cell? ⟨gb322,1,none⟩ = some (.int .i64 a0_1):=(blk_cell BK322.out 1).trans rfl;have hcz4_2 : w3.cell? ⟨gb322,2,none⟩ = some (.slice A0_2 l0_2.length c0_2):=(blk_cell BK322.out 2).trans rfl;have hcz4_3 : w3.cell? ⟨gb322,3,none⟩ = some (.int .i64 a0_3):=(blk_cell BK322.out 3).trans rfl;have hcz4_4 : w3.cell? ⟨gb322,4,none⟩ = some (.int .u32 a0_4):=(blk_cell BK322.out 4).trans rfl;have hfz4_0:=blk_frozen BK322.out 0;have hfz4_1:=blk_frozen BK322.out 1;have hfz4_2:=blk_frozen BK322.out 2;have hfz4_3:=blk_frozen BK322.out 3;have hfz4_4:=blk_frozen BK322.out 4)|((with_reducible refine gate_callee (f:=20) rfl ?_);refine goesL_ (some 8) rfl rfl Try.func20 (by kernel_rfl) rfl #[.agg #[.int .i64 a0_0,.int .i64 a0_1,.slice A0_2 l0_2.length c0_2,.int .i64 a0_3,.int .u32 a0_4]] rfl (by (try simp only [List.map_toArray,List.map_cons,List.map_nil]);first|done|rfl|(simp only [List.length_drop,List.length_take];rfl)) ?_;(with_reducible refine (kinds_kinds.calls k a0_0 a0_1 _ _ l0_2 a0_3 a0_4 t323 t326 _ ?side1 ?side2 A2.out).mono ?_);(case side1=>repeat (first|exact (Kd.C_below HR0_2.out HB.out)|(with_reducible refine Kd.C_alloc ?_ _)|(with_reducible refine Kd.C_drewN ?_ _)|(with_reducible refine Kd.C_drew ?_)));(case side2=>exact HC0_2.out);rintro e w5 ⟨v324,rfl,ho0,hb⟩;refine ⟨_,rfl,?_⟩;have n0_:=Aside0.mk (Kd.R_lower ho0 (below_size (by repeat (first|(with_reducible first|exact HB.out|apply below_alloc|apply pw_below_drewN|apply below_drew1|refine below_set ?_ GE322.out)|exact HB.out))));have n1_:=Aside0.mk (blk_below (g:=gb322) (o:=.cells #[.int .i64 a0_0,.int .i64 a0_1,.slice A0_2 l0_2.length c0_2,.int .i64 a0_3,.int .u32 a0_4] 25 (0,0)) (by (with_reducible repeat (first|refine blk_drewN ?_ _|refine blk_drew ?_|refine blk_alloc ?_ _));exact BK322.out) hb);have n2_:=Aside0.mk (below_step (by repeat (first|(with_reducible first|exact HB.out|apply below_alloc|apply pw_below_drewN|apply below_drew1|refine below_set ?_ GE322.out)|exact HB.out)) hb);clear BK322;clear HB;have HO325:=n0_;have BK322:=n1_;have HB:=n2_;clear n0_ n1_ n2_;(try clear hb);(try clear hb2);(try clear hk);(try clear hi);(try clear ho0);obtain ⟨Ao6,co6,eo6⟩:=Kd.R_slice HO325.out;subst eo6))
 go_ret2
 exact ⟨by first|rfl|(simp [errW_none,errW_some] <;> rfl)|(simp [*,errW_none,errW_some] <;> rfl),by repeat (first|(with_reducible first|exact HB.out|apply below_alloc|apply pw_below_drewN|apply below_drew1|refine below_set ?_ GE322.out)|exact HB.out)⟩
/-! ### slices_Clone_int_int: function 30 -/
def slices_Clone_int_int.f (l0 : List Int) : Option (List Int):=if l0.length < 17592186044416 then some l0 else none
theorem slices_Clone_int_int.info : (Try.prog.info? 3).map (fun i=>(i.zero,i.size,i.bytes)) = some (some (.int .i64 0),1,8):=by kernel_rfl
set_option maxHeartbeats 8000000 in
set_option maxRecDepth 100000 in
theorem slices_Clone_int_int.calls (A0 : Option Addr) (c0 : Nat) (l0 : List Int) (r : List Int) (w : World) (hr0 : Kd.C (Kd.int .i64) w A0 l0.length l0) (hc0 : l0.length ≤ c0) (h : slices_Clone_int_int.f l0 = some r) :
  Calls Try.prog 30 #[.slice A0 l0.length c0] w fun e w'=>∃ v0_ : Value,e = .returned (v0_) ∧ Kd.R (Kd.int .i64) 3 w' w.heap.size (fun _=>True) v0_ r ∧ Below w.heap.size w w':=by
 have HB:=Aside0.mk (Below.refl w.heap.size w)
 unfold slices_Clone_int_int.f at h
 by_cases c : l0.length < 17592186044416
 ·rw [if_pos c] at h
  obtain rfl:=Option.some.inj h
  clear h
  have LM:=Aside0.mk c
  clear c
  have qn : ∀ (w : World) (a : Option Addr) (n c n' c' : Nat),(binOp .eql 26 (.slice a n c) (.slice none n' c')).run Try.prog w = .ok (.bool a.isNone) w:=fun w a n c n' c'=>Lib.run_eql_slice_nil w _ _ a n c n' c' Try.underlying26
  cases A0 with
  | none =>
   obtain rfl : l0 = []:=by
    rcases Nat.eq_zero_or_pos l0.length with h0|h0
    ·exact List.eq_nil_of_length_eq_zero h0
    ·obtain ⟨ad,e,_⟩:=hr0.2.2 h0
     cases e
   clear hr0 hc0 LM
   go_enter Try.func30,Try.ntmps30
   go_wp2
   go_ret
   exact ⟨_,rfl,Kd.R_nil _ _ _ _ _,HB.out⟩
  | some ad =>
   have HR0:=Aside0.mk hr0
   clear hr0 hc0
   obtain ⟨y1,hy1⟩ : ∃ y_ : List Int,y_ = ([] : List Int):=⟨_,rfl⟩
   have Ny1:=Aside0.mk hy1
   clear hy1
   obtain ⟨y2,hy2⟩ : ∃ y_ : List Int,y_ = y1 ++ l0:=⟨_,rfl⟩
   have Ny2:=Aside0.mk hy2
   clear hy2
   go_enter Try.func30,Try.ntmps30
   go_wp2_with (first|((with_reducible refine gate_dst (N:=5) rfl ?_);refine Kd.R_lit (Kd.int .i64) _ 3 ?hg (N:=5) ?hd (xs:=([] : List Int)) (inner:=[]) (ok:=fun _=>True) (okp:=fun _=>True) ?hr ?hp (fun _ hk=>hk) trivial (Below.refl _ _) (Nat.le_refl _) (by simp) ?_;(case hd=>rfl);(case hg=>rfl);(case hr=>first|(go_simp;done)|(go_simp;rfl));(case hp=>exact (Reps.none _ _));intro v1 w5 ho1 hb hg_ hnew_;clear hg_ hnew_;(first|rw [← Ny1.out] at ho1|(simp only [Int.reduceToNat] at ho1;rw [← Ny1.out] at ho1));have n0_:=Aside0.mk (Kd.R_lower ho1 (below_size (by repeat (first|(with_reducible first|exact HB.out|apply below_alloc|apply pw_below_drewN|apply below_drew1)|exact HB.out))));have n1_:=Aside0.mk (below_step (by repeat (first|(with_reducible first|exact HB.out|apply below_alloc|apply pw_below_drewN|apply below_drew1)|exact HB.out)) hb);clear HB;have HO1:=n0_;have HB:=n1_;clear n0_ n1_;clear hb ho1)|((with_reducible refine gate_builtin (b:=.append) (xs:=#[.tmp 5,.tmp 6]) rfl ?_);at_builtin;refine Kd.R_append_rows (Kd.int .i64) (w0:=w) w.heap.size rfl (.tmp 5) (.tmp 6) 26 3 (.int .i64 0) 8 rfl Try.underlying26 slices_Clone_int_int.info rfl (by decide) (by omega) v1 y1 l0 _ _ _ (fun _=>True) (fun _=>False) rfl rfl ?aO ?aR (fun _ _ h=>h) (fun _ h=>h.elim) ?aF ?aB ?aS ?aL ?_;(case aR=>repeat (first|exact (Kd.C_below HR0.out HB.out)|(with_reducible refine Kd.C_alloc ?_ _)|(with_reducible refine Kd.C_drewN ?_ _)|(with_reducible refine Kd.C_drew ?_)));(case aB=>exact (by repeat (first|(with_reducible first|exact HB.out|apply below_alloc|apply pw_below_drewN|apply below_drew1)|exact HB.out)));(case aF=>exact (fun _ _=>trivial));(case aO=>exact (by (with_reducible repeat (first|apply Kd.R_alloc|apply Kd.R_drewN|apply Kd.R_drew));exact HO1.out));(case aS=>exact (below_size (by repeat (first|(with_reducible first|exact HB.out|apply below_alloc|apply pw_below_drewN|apply below_drew1)|exact HB.out))));(case aL=>have:=LM.out;have:=Ny1.out;subst this;simp only [List.length_nil];omega);intro v2 w7 ho hb hg hat;rw [← Ny2.out] at ho;have n0_:=Aside0.mk (hb);have n1_:=Aside0.mk (ho);clear HB;clear HO1;have HB:=n0_;have HO2:=n1_;clear n0_ n1_;clear ho hb hg hat))
   go_ret
   have e2 : y2 = l0:=by rw [Ny2.out,Ny1.out];rfl
   refine ⟨_,rfl,?_,HB.out⟩
   rw [← e2]
   exact HO2.out
 ·rw [if_neg c] at h
  exact absurd h (by simp)
/-! ### machine_Copy: function 21 -/
def machine_Copy.l0 : Nat → List (List Int) → List (List Int) → Int → Int → Int → Int → List (List Int) → Int → Int → Option (Int × Int × (List (List Int)) × Int × Int)
 | 0,_,_,_,_,_,_,_,_,_=>none
 | k + 1,x3,x11,x12,x13,x328000,x328001,x328002,x328003,x328004=>if x13 < x12 then (if 0 ≤ x13 then (if x13 < (x11.length : Int) then ((slices_Clone_int_int.f (rd_L1 x11 x13)).bind fun t333=>(if x13 < (x3.length : Int) then (machine_Copy.l0 k (x3.set (x13 : Int).toNat t333) x11 x12 (wrap64 (x13 + 1)) x328000 x328001 x328002 x328003 x328004) else (none))) else (none)) else (none)) else (some (x328000,x328001,x3,x328003,x328004))
def machine_Copy.f (k : Nat) (a0_0 : Int) (a0_1 : Int) (l0_2 : List (List Int)) (a0_3 : Int) (a0_4 : Int) : Option (Int × Int × (List (List Int)) × Int × Int):=if 0 ≤ (l0_2.length : Int) then (if ((l0_2.length : Int) : Int).toNat ≤ 11728124029610 then (machine_Copy.l0 k (List.replicate ((l0_2.length : Int) : Int).toNat []) l0_2 (l0_2.length : Int) 0 a0_0 a0_1 l0_2 a0_3 a0_4) else (none)) else (none)
theorem machine_Copy.mono_l : ∀ k,(∀ y0 y1 y2 y3 y4 y5 y6 y7 y8,LeO (machine_Copy.l0 k y0 y1 y2 y3 y4 y5 y6 y7 y8) (machine_Copy.l0 (k + 1) y0 y1 y2 y3 y4 y5 y6 y7 y8))
 | 0=>fun _ _ _ _ _ _ _ _ _ r h=>by simp [machine_Copy.l0] at h
 | k + 1=>by
  have ih0:=machine_Copy.mono_l k
  ·intro y0 y1 y2 y3 y4 y5 y6 y7 y8
   unfold machine_Copy.l0
   repeat' first
   | (with_reducible exact ih0 _ _ _ _ _ _ _ _ _)
   | (with_reducible exact LeO.refl _)
   | (with_reducible exact LeO.none _)
   | (with_reducible refine LeO.ite ?_ ?_)
   | (with_reducible refine LeO.bind ?_ (fun _=>?_))
   | exact ih0 _ _ _ _ _ _ _ _ _
   | exact LeO.none _
   | refine LeO.ite ?_ ?_
   | refine LeO.bind ?_ (fun _=>?_)
theorem machine_Copy.mono : ∀ a0 a1 a2 a3 a4 k,LeO (machine_Copy.f k a0 a1 a2 a3 a4) (machine_Copy.f (k + 1) a0 a1 a2 a3 a4):=by
 intro a0 a1 a2 a3 a4 k
 have ih0:=machine_Copy.mono_l k
 unfold machine_Copy.f
 repeat' first
   | (with_reducible exact ih0 _ _ _ _ _ _ _ _ _)
   | (with_reducible exact LeO.refl _)
   | (with_reducible exact LeO.none _)
   | (with_reducible refine LeO.ite ?_ ?_)
   | (with_reducible refine LeO.bind ?_ (fun _=>?_))
   | exact ih0 _ _ _ _ _ _ _ _ _
   | exact LeO.none _
   | refine LeO.ite ?_ ?_
   | refine LeO.bind ?_ (fun _=>?_)
set_option maxHeartbeats 8000000 in
set_option maxRecDepth 100000 in
theorem machine_Copy.calls (k : Nat) (a0_0 : Int) (a0_1 : Int) (A0_2 : Option Addr) (c0_2 : Nat) (l0_2 : List (List Int)) (a0_3 : Int) (a0_4 : Int) (r1 : Int) (r2 : Int) (r3 : List (List Int)) (r4 : Int) (r5 : Int) (w : World) (hr0_2 : Kd.C (Kd.slice 3 (Kd.int .i64)) w A0_2 l0_2.length l0_2) (hc0_2 : l0_2.length ≤ c0_2) (h : machine_Copy.f k a0_0 a0_1 l0_2 a0_3 a0_4 = some (r1,r2,r3,r4,r5)) :
  Calls Try.prog 21 #[.agg #[.int .i64 a0_0,.int .i64 a0_1,.slice A0_2 l0_2.length c0_2,.int .i64 a0_3,.int .u32 a0_4]] w fun e w'=>∃ v2_ : Value,e = .returned (.agg #[.int .i64 r1,.int .i64 r2,v2_,.int .i64 r4,.int .u32 r5]) ∧ Kd.S (Kd.slice 3 (Kd.int .i64)) 26 w' w.heap.size (fun _=>True) v2_ r3 ∧ Below w.heap.size w w':=by
 have hu25:=Try.underlying25
 have HR0_2:=Aside0.mk hr0_2
 have HC0_2:=Aside0.mk hc0_2
 clear hr0_2 hc0_2
 have HB:=Aside0.mk (Below.refl w.heap.size w)
 have H : (if 0 ≤ (l0_2.length : Int) then (if ((l0_2.length : Int) : Int).toNat ≤ 11728124029610 then (machine_Copy.l0 k (List.replicate ((l0_2.length : Int) : Int).toNat []) l0_2 (l0_2.length : Int) 0 a0_0 a0_1 l0_2 a0_3 a0_4) else (none)) else (none)) = some (r1,r2,r3,r4,r5):=h
 clear h
 by_cases c2 : 0 ≤ (l0_2.length : Int)
 ·rw [if_pos c2] at H
  have c2b0:=eq_true c2
  have c2b1 : decide (0 ≤ (l0_2.length : Int)) = true:=decide_eq_true c2
  clear c2
  by_cases c3 : ((l0_2.length : Int) : Int).toNat ≤ 11728124029610
  ·rw [if_pos c3] at H
   have c3b0:=eq_true c3
   have c3b1 : decide (((l0_2.length : Int) : Int).toNat ≤ 11728124029610) = true:=decide_eq_true c3
   clear c3
   obtain ⟨y329,hy329⟩ : ∃ y_ : List (List Int),y_ = (List.replicate ((l0_2.length : Int) : Int).toNat []):=⟨_,rfl⟩
   replace H : (machine_Copy.l0 k y329 l0_2 (l0_2.length : Int) 0 a0_0 a0_1 l0_2 a0_3 a0_4) = some (r1,r2,r3,r4,r5):=by first|(rw [hy329];with_reducible exact H)|(have H2_:=(Option.bind_some _ _).symm.trans H;rw [hy329];with_reducible exact H2_)|(have H2_:=(Option.bind_some _ _).symm.trans H;with_reducible exact H2_)|with_reducible exact H|(rw [hy329];exact H)|exact H
   have Ny329:=Aside0.mk hy329
   clear hy329
   have H':=Aside0.mk H
   clear H
   go_enter Try.func21,Try.ntmps21
   go_wp2_with (first|((with_reducible refine gate_dst (N:=1) rfl ?_);refine box_event ?hg (N:=1) ?hd (cs:=#[.int .i64 a0_0,.int .i64 a0_1,.slice A0_2 l0_2.length c0_2,.int .i64 a0_3,.int .u32 a0_4]) (t:=25) ?hr ?_;(case hd=>rfl);(case hg=>rfl);(case hr=>first|(go_simp;done)|(go_simp;rfl));intro gb327 hg w4 hbox hb;have n0_:=Aside0.mk (below_step (by repeat (first|(with_reducible first|exact HB.out|apply below_alloc|apply pw_below_drewN|apply below_drew1)|exact HB.out)) hb);have n1_:=Aside0.mk (hbox);have n2_:=Aside0.mk ((by rw [hg];exact (below_size (by repeat (first|(with_reducible first|exact HB.out|apply below_alloc|apply pw_below_drewN|apply below_drew1)|exact HB.out))) : w.heap.size ≤ gb327));have n3_:=Aside0.mk ((by rw [hg];exact (below_size (by repeat (first|(with_reducible first|exact HB.out|apply below_alloc|apply pw_below_drewN|apply below_drew1)|exact HB.out))) : w.heap.size ≤ gb327));clear HB;have HB:=n0_;have BK327:=n1_;have GW327:=n2_;have GE327:=n3_;clear n0_ n1_ n2_ n3_;clear hb hbox hg)|((with_reducible refine gate_dst (N:=2) rfl ?_);refine box_event ?hg (N:=2) ?hd (cs:=#[.int .i64 0,.int .i64 0,.slice none 0 0,.int .i64 0,.int .u32 0]) (t:=25) ?hr ?_;(case hd=>rfl);(case hg=>rfl);(case hr=>first|(go_simp;done)|(go_simp;rfl));intro gb328 hg w5 hbox hb;have n0_:=Aside0.mk (blk_below (g:=gb327) (o:=.cells #[.int .i64 a0_0,.int .i64 a0_1,.slice A0_2 l0_2.length c0_2,.int .i64 a0_3,.int .u32 a0_4] 25 (0,0)) (by (with_reducible repeat (first|refine blk_drewN ?_ _|refine blk_drew ?_|refine blk_alloc ?_ _));exact BK327.out) hb);have n1_:=Aside0.mk (below_step (by repeat (first|(with_reducible first|exact HB.out|apply below_alloc|apply pw_below_drewN|apply below_drew1|refine below_set ?_ GE327.out)|exact HB.out)) hb);have n2_:=Aside0.mk (hbox);have n3_:=Aside0.mk ((by rw [hg];exact (below_size (by repeat (first|(with_reducible first|exact HB.out|apply below_alloc|apply pw_below_drewN|apply below_drew1|refine below_set ?_ GE327.out)|exact HB.out))) : w.heap.size ≤ gb328));have n4_:=Aside0.mk ((by rw [hg];exact (below_size (by repeat (first|(with_reducible first|exact HB.out|apply below_alloc|apply pw_below_drewN|apply below_drew1|refine below_set ?_ GE327.out)|exact HB.out))) : w.heap.size ≤ gb328));have n5_:=Aside0.mk ((by rw [hg];exact Nat.ne_of_lt (blk_lt (g:=gb327) (o:=.cells #[.int .i64 a0_0,.int .i64 a0_1,.slice A0_2 l0_2.length c0_2,.int .i64 a0_3,.int .u32 a0_4] 25 (0,0)) (by (with_reducible repeat (first|refine blk_drewN ?_ _|refine blk_drew ?_|refine blk_alloc ?_ _));exact BK327.out)) : gb327 ≠ gb328));have n6_:=Aside0.mk ((by rw [hg];exact Nat.ne_of_gt (blk_lt (g:=gb327) (o:=.cells #[.int .i64 a0_0,.int .i64 a0_1,.slice A0_2 l0_2.length c0_2,.int .i64 a0_3,.int .u32 a0_4] 25 (0,0)) (by (with_reducible repeat (first|refine blk_drewN ?_ _|refine blk_drew ?_|refine blk_alloc ?_ _));exact BK327.out)) : gb328 ≠ gb327));clear BK327;clear HB;have BK327:=n0_;have HB:=n1_;have BK328:=n2_;have GW328:=n3_;have GE328:=n4_;have NB327_328:=n5_;have NB328_327:=n6_;clear n0_ n1_ n2_ n3_ n4_ n5_ n6_;clear hb hbox hg;have hnb6:=NB327_328.out;have hnc6:=NB328_327.out;have hcz7_0 : w5.cell? ⟨gb327,0,none⟩ = some (.int .i64 a0_0):=(blk_cell BK327.out 0).trans rfl;have hcz7_1 : w5.cell? ⟨gb327,1,none⟩ = some (.int .i64 a0_1):=(blk_cell BK327.out 1).trans rfl;have hcz7_2 : w5.cell? ⟨gb327,2,none⟩ = some (.slice A0_2 l0_2.length c0_2):=(blk_cell BK327.out 2).trans rfl;have hcz7_3 : w5.cell? ⟨gb327,3,none⟩ = some (.int .i64 a0_3):=(blk_cell BK327.out 3).trans rfl;have hcz7_4 : w5.cell? ⟨gb327,4,none⟩ = some (.int .u32 a0_4):=(blk_cell BK327.out 4).trans rfl;have hfz7_0:=blk_frozen BK327.out 0;have hfz7_1:=blk_frozen BK327.out 1;have hfz7_2:=blk_frozen BK327.out 2;have hfz7_3:=blk_frozen BK327.out 3;have hfz7_4:=blk_frozen BK327.out 4)|((with_reducible refine gate_dst (N:=9) rfl ?_);refine Kd.S_make (Kd.slice 3 (Kd.int .i64)) _ 26 rfl (N:=9) rfl 22 _ _ rfl (l0_2.length : Int) rfl rfl Try.underlying22 (.slice none 0 0) 24 info26 rfl (by decide) (by omega) [] (ok:=fun _=>True) (okp:=fun _=>True) ⟨_,rfl,Kd.R_nil _ _ _ _ _⟩ (fun _ hk=>hk) trivial (of_decide_eq_true (by first|(with_reducible assumption)|assumption)) (Nat.le_trans (Nat.mul_le_mul_right _ (of_decide_eq_true (by first|(with_reducible assumption)|assumption) : (l0_2.length : Int).toNat ≤ 11728124029610)) (by omega)) (Below.refl _ _) (Nat.le_refl _) ?_;intro v330 w8 ho9 hb hg_ hnew_;clear hg_ hnew_;(first|rw [← Ny329.out] at ho9|(simp only [Int.reduceToNat] at ho9;rw [← Ny329.out] at ho9));have n0_:=Aside0.mk (Kd.S_lower ho9 (below_size (by repeat (first|(with_reducible first|exact HB.out|apply below_alloc|apply pw_below_drewN|apply below_drew1|refine below_set ?_ GE327.out|refine below_set ?_ GE328.out)|exact HB.out))));have n1_:=Aside0.mk (blk_below (g:=gb327) (o:=.cells #[.int .i64 a0_0,.int .i64 a0_1,.slice A0_2 l0_2.length c0_2,.int .i64 a0_3,.int .u32 a0_4] 25 (0,0)) (by (with_reducible repeat (first|refine blk_drewN ?_ _|refine blk_drew ?_|refine blk_alloc ?_ _));exact BK327.out) hb);have n2_:=Aside0.mk (blk_below (g:=gb328) (o:=.cells #[.int .i64 0,.int .i64 0,.slice none 0 0,.int .i64 0,.int .u32 0] 25 (0,0)) (by (with_reducible repeat (first|refine blk_drewN ?_ _|refine blk_drew ?_|refine blk_alloc ?_ _));exact BK328.out) hb);have n3_:=Aside0.mk (below_step (by repeat (first|(with_reducible first|exact HB.out|apply below_alloc|apply pw_below_drewN|apply below_drew1|refine below_set ?_ GE327.out|refine below_set ?_ GE328.out)|exact HB.out)) hb);clear BK327;clear BK328;clear HB;have HO331:=n0_;have BK327:=n1_;have BK328:=n2_;have HB:=n3_;clear n0_ n1_ n2_ n3_;clear hb ho9;have hcz10_0 : w8.cell? ⟨gb327,0,none⟩ = some (.int .i64 a0_0):=(blk_cell BK327.out 0).trans rfl;have hcz10_1 : w8.cell? ⟨gb327,1,none⟩ = some (.int .i64 a0_1):=(blk_cell BK327.out 1).trans rfl;have hcz10_2 : w8.cell? ⟨gb327,2,none⟩ = some (.slice A0_2 l0_2.length c0_2):=(blk_cell BK327.out 2).trans rfl;have hcz10_3 : w8.cell? ⟨gb327,3,none⟩ = some (.int .i64 a0_3):=(blk_cell BK327.out 3).trans rfl;have hcz10_4 : w8.cell? ⟨gb327,4,none⟩ = some (.int .u32 a0_4):=(blk_cell BK327.out 4).trans rfl;have hfz10_0:=blk_frozen BK327.out 0;have hfz10_1:=blk_frozen BK327.out 1;have hfz10_2:=blk_frozen BK327.out 2;have hfz10_3:=blk_frozen BK327.out 3;have hfz10_4:=blk_frozen BK327.out 4))
   go_loopg [13] k (fun kq v13 w'=>∃ (x3_1 : List (List Int)) (x13_1 : Int),v13 = .int .i64 x13_1 ∧ Aside0 (machine_Copy.l0 kq x3_1 l0_2 (l0_2.length : Int) x13_1 a0_0 a0_1 l0_2 a0_3 a0_4 = some (r1,r2,r3,r4,r5)) ∧ Aside0 (kq ≤ k) ∧ Aside0 (Kd.S (Kd.slice 3 (Kd.int .i64)) 26 w' w.heap.size (fun _=>True) v330 x3_1) ∧ Aside0 (w'.heap[gb327]? = some (.cells #[.int .i64 a0_0,.int .i64 a0_1,(.slice A0_2 l0_2.length c0_2),.int .i64 a0_3,.int .u32 a0_4] 25 (0,0))) ∧ Aside0 (w'.heap[gb328]? = some (.cells #[.int .i64 0,.int .i64 0,(.slice none 0 0),.int .i64 0,.int .u32 0] 25 (0,0))) ∧ Aside0 (Below w.heap.size w w'))
   case atStart=>exact ⟨(y329),(0),(by first|rfl|(simp;done)|(simp [*];done)),H',⟨Nat.le_refl _⟩,⟨by (with_reducible repeat (first|apply Kd.S_alloc|apply Kd.S_drewN|apply Kd.S_drew));exact HO331.out⟩,⟨by (with_reducible repeat (first|refine blk_drewN ?_ _|refine blk_drew ?_|refine blk_alloc ?_ _));exact BK327.out⟩,⟨by (with_reducible repeat (first|refine blk_drewN ?_ _|refine blk_drew ?_|refine blk_alloc ?_ _));exact BK328.out⟩,⟨by repeat (first|(with_reducible first|exact HB.out|apply below_alloc|apply pw_below_drewN|apply below_drew1|refine below_set ?_ GE327.out|refine below_set ?_ GE328.out)|exact HB.out)⟩⟩
   case round =>
    clear H'
    try clear c2
    try clear c2b0
    try clear c2b1
    try clear p2
    try clear c3
    try clear c3b0
    try clear c3b1
    try clear c6
    try clear hcz10_0
    try clear hcz10_1
    try clear hcz10_2
    try clear hcz10_3
    try clear hcz10_4
    try clear hcz7_0
    try clear hcz7_1
    try clear hcz7_2
    try clear hcz7_3
    try clear hcz7_4
    try clear hfz10_0
    try clear hfz10_1
    try clear hfz10_2
    try clear hfz10_3
    try clear hfz10_4
    try clear hfz7_0
    try clear hfz7_1
    try clear hfz7_2
    try clear hfz7_3
    try clear hfz7_4
    obtain ⟨x3_1,x13_1,rfl,HA,HK1,HO_3,BK327,BK328,HB⟩:=hrel
    cases gk with
    | zero=>exact absurd HA.out (by simp [machine_Copy.l0])
    | succ k1 =>
     have H:=HA.out
     clear HA
     simp only [machine_Copy.l0] at H
     by_cases c11 : x13_1 < (l0_2.length : Int)
     ·rw [if_pos c11] at H
      have c11b0 : decide (x13_1 < (l0_2.length : Int)) = true:=decide_eq_true c11
      clear c11
      by_cases c12 : 0 ≤ x13_1
      ·rw [if_pos c12] at H
       have c12b0 : decide (0 ≤ x13_1) = true:=decide_eq_true c12
       clear c12
       by_cases c13 : x13_1 < (l0_2.length : Int)
       ·rw [if_pos c13] at H
        have c13b0 : decide (x13_1 < (l0_2.length : Int)) = true:=decide_eq_true c13
        clear c13
        replace H:=Option.bind_eq_some_iff.mp H
        obtain ⟨t333,A140,H⟩:=H
        replace H : (if x13_1 < (x3_1.length : Int) then (machine_Copy.l0 k1 (x3_1.set (x13_1 : Int).toNat t333) l0_2 (l0_2.length : Int) (wrap64 (x13_1 + 1)) a0_0 a0_1 l0_2 a0_3 a0_4) else (none)) = some (r1,r2,r3,r4,r5):=H
        have A14:=Aside0.mk A140
        clear A140
        by_cases c15 : x13_1 < (x3_1.length : Int)
        ·rw [if_pos c15] at H
         have c15b0 : decide (x13_1 < (x3_1.length : Int)) = true:=decide_eq_true c15
         clear c15
         obtain ⟨y336,hy336⟩ : ∃ y_ : List (List Int),y_ = (x3_1.set (x13_1 : Int).toNat t333):=⟨_,rfl⟩
         replace H : (machine_Copy.l0 k1 y336 l0_2 (l0_2.length : Int) (wrap64 (x13_1 + 1)) a0_0 a0_1 l0_2 a0_3 a0_4) = some (r1,r2,r3,r4,r5):=by first|(rw [hy336];with_reducible exact H)|(have H2_:=(Option.bind_some _ _).symm.trans H;rw [hy336];with_reducible exact H2_)|(have H2_:=(Option.bind_some _ _).symm.trans H;with_reducible exact H2_)|with_reducible exact H|(rw [hy336];exact H)|exact H
         have Ny336:=Aside0.mk hy336
         clear hy336
         have H':=Aside0.mk H
         clear H
         have p332 : 0 ≤ (x13_1 : Int):=of_decide_eq_true (by first|(with_reducible assumption)|assumption)
         have q332 : x13_1 < (l0_2.length : Int):=of_decide_eq_true (by first|(with_reducible assumption)|assumption)
         obtain ⟨ad332,A332_0,c332_0,e332,hx332_0,hl332_0,hi332_0⟩:=at_L1 HR0_2.out x13_1 p332 q332
         cases e332
         replace hx332_0:=(HB.out.cell (World.block_lt_of_cell? w _ hx332_0)).trans hx332_0
         have HR332_0:=Aside0.mk hi332_0
         have HC332_0:=Aside0.mk hl332_0
         clear hi332_0 hl332_0
         replace p332:=eq_true p332
         replace q332:=eq_true q332
         go_wp2_with (first|((with_reducible refine gate_callee (f:=30) rfl ?_);refine goesL_ (some 21) rfl rfl Try.func30 (by kernel_rfl) rfl #[.slice A332_0 (rd_L1 l0_2 x13_1).length c332_0] rfl (by (try simp only [List.map_toArray,List.map_cons,List.map_nil]);first|done|rfl|(simp only [List.length_drop,List.length_take];rfl)) ?_;(with_reducible refine (slices_Clone_int_int.calls _ _ (rd_L1 l0_2 x13_1) t333 _ ?side1 ?side2 A14.out).mono ?_);(case side1=>repeat (first|exact (Kd.C_below HR332_0.out HB.out)|(with_reducible refine Kd.C_alloc ?_ _)|(with_reducible refine Kd.C_drewN ?_ _)|(with_reducible refine Kd.C_drew ?_)));(case side2=>exact HC332_0.out);rintro e w17 ⟨v334,rfl,ho0,hb⟩;refine ⟨_,rfl,?_⟩;have n0_:=Aside0.mk (Kd.S_elder' (by (with_reducible repeat (first|apply Kd.S_alloc|apply Kd.S_drewN|apply Kd.S_drew));exact HO_3.out) (Kd.R_base ho0) hb);have n1_:=Aside0.mk (Kd.R_lower ho0 (below_size (by repeat (first|(with_reducible first|exact HB.out|apply below_alloc|apply pw_below_drewN|apply below_drew1|refine below_set ?_ GE327.out|refine below_set ?_ GE328.out)|exact HB.out))));have n2_:=Aside0.mk (blk_below (g:=gb327) (o:=.cells #[.int .i64 a0_0,.int .i64 a0_1,.slice (some ad332) l0_2.length c0_2,.int .i64 a0_3,.int .u32 a0_4] 25 (0,0)) (by (with_reducible repeat (first|refine blk_drewN ?_ _|refine blk_drew ?_|refine blk_alloc ?_ _));exact BK327.out) hb);have n3_:=Aside0.mk (blk_below (g:=gb328) (o:=.cells #[.int .i64 0,.int .i64 0,.slice none 0 0,.int .i64 0,.int .u32 0] 25 (0,0)) (by (with_reducible repeat (first|refine blk_drewN ?_ _|refine blk_drew ?_|refine blk_alloc ?_ _));exact BK328.out) hb);have n4_:=Aside0.mk (below_step (by repeat (first|(with_reducible first|exact HB.out|apply below_alloc|apply pw_below_drewN|apply below_drew1|refine below_set ?_ GE327.out|refine below_set ?_ GE328.out)|exact HB.out)) hb);clear HO_3;clear BK327;clear BK328;clear HB;have HO_3:=n0_;have HO335:=n1_;have BK327:=n2_;have BK328:=n3_;have HB:=n4_;clear n0_ n1_ n2_ n3_ n4_;(try clear hb);(try clear hb2);(try clear hk);(try clear hi);(try clear ho0);have p16 : 0 ≤ (x13_1 : Int):=of_decide_eq_true (by first|(with_reducible assumption)|assumption);have q16 : (x13_1 : Int) < ((x3_1.length : Int) : Int):=of_decide_eq_true (by first|(with_reducible assumption)|assumption);obtain ⟨go16,co16,eo16,gb16,gl16,cl16,HG16⟩:=Kd.S_form HO_3.out (by omega);(first|cases eo16|(injection eo16 with ea_ en_ ec_;(first|subst ea_|(injection ea_ with ea_;subst ea_));subst ec_;clear en_));have GB16:=Aside0.mk gb16;have GG16:=Aside0.mk HG16;clear gb16 gl16 HG16;obtain ⟨_,ce16,hcl16,hM16,hcc16,hfr16,_,_⟩:=Kd.S_elem HO_3.out [] (x13_1 : Int) p16 q16;obtain ⟨ve16_0,rfl,ge16_0⟩:=id hM16;have hx16_0:=hcc16 0 _ rfl;have hf16_0:=hfr16 0;(try simp only [show ((Kd.slice 3 (Kd.int .i64))).sz = 1 from rfl,Nat.mul_one,Nat.add_zero] at hx16_0);(try simp only [show ((Kd.slice 3 (Kd.int .i64))).sz = 1 from rfl,Nat.mul_one,Nat.add_zero] at hf16_0);clear hcl16 hcc16 hfr16 hM16;replace p16:=eq_true p16;replace q16:=eq_true q16;obtain ⟨Ao18,co18,eo18⟩:=Kd.R_slice HO335.out;subst eo18;have n_:=Aside0.mk (Kd.S_mono (ok':=(fun k_=>some k_ ≠ (.slice Ao18 t333.length co18 : Value).ownBlock)) HO_3.out (fun k_ hk=>hk.2));clear HO_3;have HO_3:=n_;clear n_;have HX19:=Aside0.mk (show Kd.S (Kd.slice 3 (Kd.int .i64)) 26 w17 w.heap.size (fun k_=>((fun _=>True)) k_ ∧ ¬ ((fun k_=>some k_ = (.slice Ao18 t333.length co18 : Value).ownBlock)) k_) (.slice (some ⟨go16,0,none⟩) x3_1.length co16) x3_1 from (by (with_reducible repeat (first|apply Kd.S_alloc|apply Kd.S_drewN|apply Kd.S_drew));exact Kd.S_mono HO_3.out (fun k_ hk=>⟨trivial,fun e_=>hk e_⟩)));obtain ⟨oki19,ce19,hcl19,hM19,hcc19,hfr19,hoki19,hH19⟩:=Kd.S_elem HX19.out [] (x13_1 : Int) (of_decide_eq_true (by first|(with_reducible assumption)|assumption)) (by have h_ : (x13_1 : Int) < ((x3_1.length : Int) : Int):=of_decide_eq_true (by first|(with_reducible assumption)|assumption);first|exact h_|(have e_:=(Kd.S_reads' HO_3.out).1;omega)|simpa using h_);obtain ⟨ve19_0,rfl,ge19_0⟩:=id hM19;have HP19:=Kd.S_seg hH19 (of_decide_eq_true (by first|(with_reducible assumption)|assumption)) (by have h_ : (x13_1 : Int) < ((x3_1.length : Int) : Int):=of_decide_eq_true (by first|(with_reducible assumption)|assumption);first|exact h_|(have e_:=(Kd.S_reads' HO_3.out).1;omega)|simpa using h_) (seg:=[.slice Ao18 t333.length co18]) (j:=0) (show 1 ≤ 1 from by decide) (x':=t333) (Kd.M_row (Kd.R_mono (Kd.R_tight rfl (Kd.R_mono (ok':=fun k_=>((fun _=>True)) k_ ∧ k_ ≠ go16) (Kd.R_apart' (HO335.out) (Kd.S_typed HO_3.out) (by decide)) (fun k_ hk=>⟨trivial,fun e_=>(hk.2) (by rw [e_];rfl)⟩))) (fun _ h_=>Or.inr (h_)))) (fun _ hk=>hk) (fun k_ hk_=>((Kd.R_mono (ok':=fun k_=>((fun _=>True)) k_ ∧ k_ ≠ go16) (Kd.R_apart' (HO335.out) (Kd.S_typed HO_3.out) (by decide)) (fun k_ hk=>⟨trivial,fun e_=>(hk.2) (by rw [e_];rfl)⟩))).1 k_ hk_.symm);have hx19_0:=hcc19 0 _ rfl;(try simp only [show ((Kd.slice 3 (Kd.int .i64))).sz = 1 from rfl,Nat.mul_one,Nat.add_zero] at hx19_0);have hf19_0:=hfr19 0;(try simp only [show ((Kd.slice 3 (Kd.int .i64))).sz = 1 from rfl,Nat.mul_one,Nat.add_zero] at hf19_0);clear hcl19 hcc19 hfr19 hM19 hoki19 hH19;(try simp only [show ((Kd.slice 3 (Kd.int .i64))).sz = 1 from rfl,Nat.mul_one,Nat.add_zero] at HP19))|((with_reducible refine gate_store (t:=26) (p:=22) rfl ?_);refine store_event (t:=26) (p:=22) (v:=?vo_w20) (w1:=(w17.setCell ⟨go16,(x13_1 : Int).toNat,none⟩ (.slice Ao18 t333.length co18))) ?hg ?ho ?hn ?hr ?_;(case ho=>rfl);(case hg=>rfl);(case hn=>rfl);(case hr=>first|(go_simp;done)|(go_simp;rfl));intro w20 hw;have hg : w17.grownBy w20 (some go16):=(by rw [hw];exact HP19.2);have hp_ : Kd.S (Kd.slice 3 (Kd.int .i64)) 26 w20 w.heap.size (fun _=>True) (.slice (some ⟨go16,0,none⟩) x3_1.length co16) y336:=(by rw [hw,Ny336.out];exact HP19.1);clear HP19;have n0_:=Aside0.mk (hp_);have n1_:=Aside0.mk (blk_grown (g:=gb327) (o:=.cells #[.int .i64 a0_0,.int .i64 a0_1,.slice (some ad332) l0_2.length c0_2,.int .i64 a0_3,.int .u32 a0_4] 25 (0,0)) (by (with_reducible repeat (first|refine blk_drewN ?_ _|refine blk_drew ?_|refine blk_alloc ?_ _));exact BK327.out) hg (Kd.S_ne HO_3.out BK327.out (by decide)));have n2_:=Aside0.mk (blk_grown (g:=gb328) (o:=.cells #[.int .i64 0,.int .i64 0,.slice none 0 0,.int .i64 0,.int .u32 0] 25 (0,0)) (by (with_reducible repeat (first|refine blk_drewN ?_ _|refine blk_drew ?_|refine blk_alloc ?_ _));exact BK328.out) hg (Kd.S_ne HO_3.out BK328.out (by decide)));have n3_:=Aside0.mk ((by rw [hw];exact below_set (HB.out) GB16.out : Below w.heap.size w w20));clear HO_3;clear BK327;clear BK328;clear HB;clear HO335;have HO_3:=n0_;have BK327:=n1_;have BK328:=n2_;have HB:=n3_;clear n0_ n1_ n2_ n3_;clear hg hw hp_))
         go_roundg k1
         case measure=>have:=HK1.out;omega
         case rel=>exact ⟨(y336),(wrap64 (x13_1 + 1)),(by first|rfl|(simp;done)|(simp [*];done)),H',⟨by have:=HK1.out;omega⟩,⟨by (with_reducible repeat (first|apply Kd.S_alloc|apply Kd.S_drewN|apply Kd.S_drew));exact HO_3.out⟩,⟨by (with_reducible repeat (first|refine blk_drewN ?_ _|refine blk_drew ?_|refine blk_alloc ?_ _));exact BK327.out⟩,⟨by (with_reducible repeat (first|refine blk_drewN ?_ _|refine blk_drew ?_|refine blk_alloc ?_ _));exact BK328.out⟩,⟨by repeat (first|(with_reducible first|exact HB.out|apply below_alloc|apply pw_below_drewN|apply below_drew1|refine below_set ?_ GE327.out|refine below_set ?_ GE328.out)|exact HB.out)⟩⟩
        ·rw [if_neg c15] at H
         exact absurd H (by simp)
       ·rw [if_neg c13] at H
        exact absurd H (by simp)
      ·rw [if_neg c12] at H
       exact absurd H (by simp)
     ·rw [if_neg c11] at H
      have c11b0 : decide (x13_1 < (l0_2.length : Int)) = false:=decide_eq_false c11
      clear c11
      simp only [Option.some.injEq,Prod.mk.injEq] at H
      obtain ⟨rfl,rfl,rfl,rfl,rfl⟩:=H
      obtain ⟨Ao21,co21,eo21⟩:=Kd.S_slice HO_3.out
      subst eo21
      have hnb22:=NB327_328.out
      have hnc22:=NB328_327.out
      have hcz23_0 : wr.cell? ⟨gb327,0,none⟩ = some (.int .i64 a0_0):=(blk_cell BK327.out 0).trans rfl
      have hcz23_1 : wr.cell? ⟨gb327,1,none⟩ = some (.int .i64 a0_1):=(blk_cell BK327.out 1).trans rfl
      have hcz23_2 : wr.cell? ⟨gb327,2,none⟩ = some (.slice A0_2 l0_2.length c0_2):=(blk_cell BK327.out 2).trans rfl
      have hcz23_3 : wr.cell? ⟨gb327,3,none⟩ = some (.int .i64 a0_3):=(blk_cell BK327.out 3).trans rfl
      have hcz23_4 : wr.cell? ⟨gb327,4,none⟩ = some (.int .u32 a0_4):=(blk_cell BK327.out 4).trans rfl
      have hfz23_0:=blk_frozen BK327.out 0
      have hfz23_1:=blk_frozen BK327.out 1
      have hfz23_2:=blk_frozen BK327.out 2
      have hfz23_3:=blk_frozen BK327.out 3
      have hfz23_4:=blk_frozen BK327.out 4
      have hcz24_0 : wr.cell? ⟨gb328,0,none⟩ = some (.int .i64 0):=(blk_cell BK328.out 0).trans rfl
      have hcz24_1 : wr.cell? ⟨gb328,1,none⟩ = some (.int .i64 0):=(blk_cell BK328.out 1).trans rfl
      have hcz24_2 : wr.cell? ⟨gb328,2,none⟩ = some (.slice none 0 0):=(blk_cell BK328.out 2).trans rfl
      have hcz24_3 : wr.cell? ⟨gb328,3,none⟩ = some (.int .i64 0):=(blk_cell BK328.out 3).trans rfl
      have hcz24_4 : wr.cell? ⟨gb328,4,none⟩ = some (.int .u32 0):=(blk_cell BK328.out 4).trans rfl
      have hfz24_0:=blk_frozen BK328.out 0
      have hfz24_1:=blk_frozen BK328.out 1
      have hfz24_2:=blk_frozen BK328.out 2
      have hfz24_3:=blk_frozen BK328.out 3
      have hfz24_4:=blk_frozen BK328.out 4
      go_wp2
      refine bodyPost_ret (results_cell_row rfl _ _ gb328 25 #[.int .i64 a0_0,.int .i64 a0_1,.slice Ao21 x3_1.length co21,.int .i64 a0_3,.int .u32 a0_4] (0,0) _ rfl (by (with_reducible repeat (first|refine blk_drewN ?_ _|refine blk_drew ?_|refine blk_alloc ?_ _));refine blk_put (cs:=#[.int .i64 a0_0,.int .i64 a0_1,.slice Ao21 x3_1.length co21,.int .i64 a0_3,.int .u32 0]) ?_ 4 _ rfl;(with_reducible repeat (first|refine blk_drewN ?_ _|refine blk_drew ?_|refine blk_alloc ?_ _));refine blk_put (cs:=#[.int .i64 a0_0,.int .i64 a0_1,.slice Ao21 x3_1.length co21,.int .i64 0,.int .u32 0]) ?_ 3 _ rfl;(with_reducible repeat (first|refine blk_drewN ?_ _|refine blk_drew ?_|refine blk_alloc ?_ _));refine blk_put (cs:=#[.int .i64 a0_0,.int .i64 a0_1,.slice none 0 0,.int .i64 0,.int .u32 0]) ?_ 2 _ rfl;(with_reducible repeat (first|refine blk_drewN ?_ _|refine blk_drew ?_|refine blk_alloc ?_ _));refine blk_put (cs:=#[.int .i64 a0_0,.int .i64 0,.slice none 0 0,.int .i64 0,.int .u32 0]) ?_ 1 _ rfl;(with_reducible repeat (first|refine blk_drewN ?_ _|refine blk_drew ?_|refine blk_alloc ?_ _));refine blk_put (cs:=#[.int .i64 0,.int .i64 0,.slice none 0 0,.int .i64 0,.int .u32 0]) ?_ 0 _ rfl;(with_reducible repeat (first|refine blk_drewN ?_ _|refine blk_drew ?_|refine blk_alloc ?_ _));refine blk_far ?_ NB328_327.out _;(with_reducible repeat (first|refine blk_drewN ?_ _|refine blk_drew ?_|refine blk_alloc ?_ _));exact BK328.out) Try.underlying25 rfl (by kernel_rfl)) rfl ?_
      exact ⟨_,by first|rfl|(simp [errW_none,errW_some] <;> rfl)|(simp [*,errW_none,errW_some] <;> rfl),by (with_reducible repeat (first|apply Kd.S_alloc|apply Kd.S_drewN|apply Kd.S_drew));exact Kd.S_mono (Kd.S_far (p:=⟨gb328,4,none⟩) (Kd.S_far (p:=⟨gb328,3,none⟩) (Kd.S_far (p:=⟨gb328,2,none⟩) (Kd.S_far (p:=⟨gb328,1,none⟩) (Kd.S_far (p:=⟨gb328,0,none⟩) (Kd.S_far (p:=⟨gb327,2,none⟩) (Kd.S_types (Kd.S_types HO_3.out BK327.out (by decide)) BK328.out (by decide)) (fun _ hk=>hk.1.2) (.slice Ao21 x3_1.length co21)) (fun _ hk=>hk.2) (.int .i64 a0_0)) (fun _ hk=>hk.2) (.int .i64 a0_1)) (fun _ hk=>hk.2) (.slice Ao21 x3_1.length co21)) (fun _ hk=>hk.2) (.int .i64 a0_3)) (fun _ hk=>hk.2) (.int .u32 a0_4)) (fun _ hk=>trivial),by repeat (first|(with_reducible first|exact HB.out|apply below_alloc|apply pw_below_drewN|apply below_drew1|refine below_set ?_ GE327.out|refine below_set ?_ GE328.out)|exact HB.out)⟩
  ·rw [if_neg c3] at H
   exact absurd H (by simp)
 ·rw [if_neg c2] at H
  exact absurd H (by simp)
end Go.Proofs.Yteppbihlpicjpaa.GM
